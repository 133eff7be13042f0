-- Written by wip/pack.py of this repo: texts of this claim, put together.
import Derived.Test.YtoilhnmdemnknaaDoorKFeedIsolatesd
-- Written by wip/xprint.py of this repo, over the kit's print.py: out of the translation; the oracles in it are by hand. Not trusted: Lean checks it.
namespace Go.Proofs.YtoilhnmdemnknaaDoor.XFeed
open Go.RowKit Go.Proofs.YtoilhnmdemnknaaDoorW.PrintWords Go.Proofs.YtoilhnmdemnknaaDoorW.PrintLast Go.Proofs.YtoilhnmdemnknaaDoorW.PrintMore
attribute [local go_sem] max2_int min2_int max_two min_two max_three min_three max_four min_four   -- for this text's walks alone
set_option linter.unusedVariables false
set_option linter.unusedSimpArgs false

/-! ### dropperref05_live: function 49 -/
mutual
def dropperref05_live.l0 : Nat → Int → List Int → Int → Int → List (S69) → List (S71) → Option (List Int)
 | 0, _, _, _, _, _, _ => none
 | k + 1, x1, x5, x6, x260000, x260001, x260002 => if x6 < (x260002.length : Int) then (if 0 ≤ x6 then ((dropperref05_from.f k x260000 x260001 x260002 x1 ((rd_T71 x260002 x6).f0)).bind fun t264 => (dropperref05_live.l1 k x1 x5 x6 t264 0 x260000 x260001 x260002)) else (none)) else (some x5)
def dropperref05_live.l1 : Nat → Int → List Int → Int → List Bool → Int → Int → List (S69) → List (S71) → Option (List Int)
 | 0, _, _, _, _, _, _, _, _ => none
 | k + 1, x1, x5, x6, x7, x8, x260000, x260001, x260002 => if x8 < x260000 then (if 0 ≤ x6 then (if x6 < (x260002.length : Int) then (if 0 ≤ x8 then (if x8 < (x7.length : Int) then (if rdOf false x7 x8 = true then (if x8 < (x5.length : Int) then (if (rd x5 x8) = 0 then (dropperref05_live.l1 k x1 (x5.set (x8 : Int).toNat ((rd_T71 x260002 x6).f1)) x6 x7 (wrap64 (x8 + 1)) x260000 x260001 x260002) else (if (rd x5 x8) = ((rd_T71 x260002 x6).f1) then (dropperref05_live.l1 k x1 x5 x6 x7 (wrap64 (x8 + 1)) x260000 x260001 x260002) else (dropperref05_live.l1 k x1 (x5.set (x8 : Int).toNat (-1)) x6 x7 (wrap64 (x8 + 1)) x260000 x260001 x260002))) else (none)) else (dropperref05_live.l1 k x1 x5 x6 x7 (wrap64 (x8 + 1)) x260000 x260001 x260002)) else (none)) else (none)) else (none)) else (none)) else (dropperref05_live.l0 k x1 x5 (wrap64 (x6 + 1)) x260000 x260001 x260002)
end
def dropperref05_live.f (k : Nat) (a0_0 : Int) (l0_1 : List (S69)) (l0_2 : List (S71)) (a1 : Int) : Option (List Int) := if 0 ≤ a0_0 then (if (a0_0 : Int).toNat ≤ 35184372088832 then (dropperref05_live.l0 k a1 (List.replicate (a0_0 : Int).toNat 0) 0 a0_0 l0_1 l0_2) else (none)) else (none)
theorem dropperref05_live.mono_l : ∀ k, (∀ y0 y1 y2 y3 y4 y5, LeO (dropperref05_live.l0 k y0 y1 y2 y3 y4 y5) (dropperref05_live.l0 (k + 1) y0 y1 y2 y3 y4 y5)) ∧ (∀ y0 y1 y2 y3 y4 y5 y6 y7, LeO (dropperref05_live.l1 k y0 y1 y2 y3 y4 y5 y6 y7) (dropperref05_live.l1 (k + 1) y0 y1 y2 y3 y4 y5 y6 y7))
 | 0 => ⟨fun _ _ _ _ _ _ r h => by simp [dropperref05_live.l0] at h, fun _ _ _ _ _ _ _ _ r h => by simp [dropperref05_live.l1] at h⟩
 | k + 1 => by
  obtain ⟨ih0, ih1⟩ := dropperref05_live.mono_l k
  refine ⟨?_, ?_⟩
  ·
   intro y0 y1 y2 y3 y4 y5
   unfold dropperref05_live.l0
   repeat' first
   | (with_reducible exact ih0 _ _ _ _ _ _)
   | (with_reducible exact ih1 _ _ _ _ _ _ _ _)
   | (with_reducible exact dropperref05_from.mono _ _ _ _ _ _)
   | (with_reducible exact LeO.refl _)
   | (with_reducible exact LeO.none _)
   | (with_reducible refine LeO.ite ?_ ?_)
   | (with_reducible refine LeO.bind ?_ (fun _ => ?_))
   | exact ih0 _ _ _ _ _ _
   | exact ih1 _ _ _ _ _ _ _ _
   | exact dropperref05_from.mono _ _ _ _ _ _
   | exact LeO.none _
   | refine LeO.ite ?_ ?_
   | refine LeO.bind ?_ (fun _ => ?_)
  ·
   intro y0 y1 y2 y3 y4 y5 y6 y7
   unfold dropperref05_live.l1
   repeat' first
   | (with_reducible exact ih0 _ _ _ _ _ _)
   | (with_reducible exact ih1 _ _ _ _ _ _ _ _)
   | (with_reducible exact dropperref05_from.mono _ _ _ _ _ _)
   | (with_reducible exact LeO.refl _)
   | (with_reducible exact LeO.none _)
   | (with_reducible refine LeO.ite ?_ ?_)
   | (with_reducible refine LeO.bind ?_ (fun _ => ?_))
   | exact ih0 _ _ _ _ _ _
   | exact ih1 _ _ _ _ _ _ _ _
   | exact dropperref05_from.mono _ _ _ _ _ _
   | exact LeO.none _
   | refine LeO.ite ?_ ?_
   | refine LeO.bind ?_ (fun _ => ?_)
theorem dropperref05_live.mono : ∀ a0 a1 a2 a3 k, LeO (dropperref05_live.f k a0 a1 a2 a3) (dropperref05_live.f (k + 1) a0 a1 a2 a3) := by
 intro a0 a1 a2 a3 k
 obtain ⟨ih0, ih1⟩ := dropperref05_live.mono_l k
 unfold dropperref05_live.f
 repeat' first
   | (with_reducible exact ih0 _ _ _ _ _ _)
   | (with_reducible exact ih1 _ _ _ _ _ _ _ _)
   | (with_reducible exact dropperref05_from.mono _ _ _ _ _ _)
   | (with_reducible exact LeO.refl _)
   | (with_reducible exact LeO.none _)
   | (with_reducible refine LeO.ite ?_ ?_)
   | (with_reducible refine LeO.bind ?_ (fun _ => ?_))
   | exact ih0 _ _ _ _ _ _
   | exact ih1 _ _ _ _ _ _ _ _
   | exact dropperref05_from.mono _ _ _ _ _ _
   | exact LeO.none _
   | refine LeO.ite ?_ ?_
   | refine LeO.bind ?_ (fun _ => ?_)
def dropperref05_live.T5 : Bool × List (List Nat × List Nat) := (true, [([], []), ([], []), ([], []), ([2], [2]), ([], []), ([3, 4], [3, 4]), ([5], [5]), ([6], [6]), ([0, 1, 7], [0, 1, 7]), ([8, 8, 0, 1, 2, 3, 4, 5, 6, 7, 8], [8])])
def dropperref05_live.B5 : List Nat := [0, 0, 0, 4, 0, 28, 60, 124, 255, 511]
theorem dropperref05_live.tab5 : rtab .any (opsOf Tryd.f49 5) = dropperref05_live.T5 := by kernel_rfl
theorem dropperref05_live.bits5 : waitsOk dropperref05_live.T5.2 dropperref05_live.B5 = true := by kernel_rfl
set_option maxHeartbeats 8000000 in
set_option maxRecDepth 100000 in
theorem dropperref05_live.calls (k : Nat) (a0_0 : Int) (A0_1 : Option Addr) (c0_1 : Nat) (l0_1 : List (S69)) (A0_2 : Option Addr) (c0_2 : Nat) (l0_2 : List (S71)) (a1 : Int) (r : List Int) (w : World) (hr0_1 : Kd.C k69 w A0_1 l0_1.length l0_1) (hc0_1 : l0_1.length ≤ c0_1) (hr0_2 : Kd.C k71 w A0_2 l0_2.length l0_2) (hc0_2 : l0_2.length ≤ c0_2) (h : dropperref05_live.f k a0_0 l0_1 l0_2 a1 = some r) :
  Calls Tryd.prog 49 #[.agg #[.int .i64 a0_0, .slice A0_1 l0_1.length c0_1, .slice A0_2 l0_2.length c0_2], .int .i64 a1] w fun e w' => ∃ v0_ : Value, e = .returned (v0_) ∧ Kd.R (Kd.int .i64) 3 w' w.heap.size (fun _ => True) v0_ r ∧ Below w.heap.size w w' := by
 have hu25 := Tryd.underlying25
 have HR0_1 := Aside0.mk hr0_1
 have HC0_1 := Aside0.mk hc0_1
 clear hr0_1 hc0_1
 have HR0_2 := Aside0.mk hr0_2
 have HC0_2 := Aside0.mk hc0_2
 clear hr0_2 hc0_2
 have HB := Aside0.mk (Below.refl w.heap.size w)
 have H : (if 0 ≤ a0_0 then (if (a0_0 : Int).toNat ≤ 35184372088832 then (dropperref05_live.l0 k a1 (List.replicate (a0_0 : Int).toNat 0) 0 a0_0 l0_1 l0_2) else (none)) else (none)) = some r := h
 clear h
 by_cases c3 : 0 ≤ a0_0
 ·
  rw [if_pos c3] at H
  have c3b0 := eq_true c3
  have c3b1 : decide (0 ≤ a0_0) = true := decide_eq_true c3
  clear c3
  by_cases c4 : (a0_0 : Int).toNat ≤ 35184372088832
  ·
   rw [if_pos c4] at H
   have c4b0 := eq_true c4
   have c4b1 : decide ((a0_0 : Int).toNat ≤ 35184372088832) = true := decide_eq_true c4
   clear c4
   obtain ⟨y260, hy260⟩ : ∃ y_ : List Int, y_ = (List.replicate (a0_0 : Int).toNat 0) := ⟨_, rfl⟩
   replace H : (dropperref05_live.l0 k a1 y260 0 a0_0 l0_1 l0_2) = some r := by first | (rw [hy260]; with_reducible exact H) | (have H2_ := (Option.bind_some _ _).symm.trans H; rw [hy260]; with_reducible exact H2_) | (have H2_ := (Option.bind_some _ _).symm.trans H; with_reducible exact H2_) | with_reducible exact H | (rw [hy260]; exact H) | exact H
   have Ny260 := Aside0.mk hy260
   clear hy260
   have H' := Aside0.mk H
   clear H
   go_enter Tryd.func49, Tryd.ntmps49
   go_wp2_with (first | ((with_reducible refine gate_dst (N := 2) rfl ?_); refine box_event ?hg (N := 2) ?hd (cs := #[.int .i64 a0_0, .slice A0_1 l0_1.length c0_1, .slice A0_2 l0_2.length c0_2]) (t := 25) ?hr ?_; (case hd => rfl); (case hg => rfl); (case hr => first | (go_simp; done) | (go_simp; rfl)); intro gb259 hg w5 hbox hb; have n0_ := Aside0.mk (below_step bel hb); have n1_ := Aside0.mk (hbox); have n2_ := Aside0.mk ((by rw [hg]; exact (below_size bel) : w.heap.size ≤ gb259)); have n3_ := n2_; clear HB; have HB := n0_; have BK259 := n1_; have GW259 := n2_; have GE259 := n3_; clear n0_ n1_ n2_ n3_; clear hb hbox hg; have hcz6_0 := blkc BK259.out 0 (.int .i64 a0_0) rfl; have hcz6_1 := blkc BK259.out 1 (.slice A0_1 l0_1.length c0_1) rfl; have hcz6_2 := blkc BK259.out 2 (.slice A0_2 l0_2.length c0_2) rfl; have hfz6_0 := blk_frozen BK259.out 0; have hfz6_1 := blk_frozen BK259.out 1; have hfz6_2 := blk_frozen BK259.out 2) | ((with_reducible refine gate_dst (N := 12) rfl ?_); refine Kd.R_make (Kd.int .i64) _ 3 rfl (N := 12) rfl 28 _ _ rfl a0_0 rfl rfl Tryd.underlying28 (.int .i64 0) 8 info3 rfl (by decide) (by omega) 0 (ok := fun _ => True) (okp := fun _ => True) rfl (fun _ hk => hk) trivial (of_decide_eq_true asz) (Nat.le_trans (Nat.mul_le_mul_right _ (of_decide_eq_true asz : a0_0.toNat ≤ 35184372088832)) (by omega)) (Below.refl _ _) (Nat.le_refl _) ?_; intro v261 w7 ho8 hb hg_ hnew_; clear hg_ hnew_; (first | rw [← Ny260.out] at ho8 | (simp only [Int.reduceToNat] at ho8; rw [← Ny260.out] at ho8)); have n0_ := Aside0.mk (Kd.R_lower ho8 (below_size bel)); have n1_ := Aside0.mk (blk_below (g := gb259) blkz hb); have n2_ := Aside0.mk (below_step bel hb); clear BK259; clear HB; have HO262 := n0_; have BK259 := n1_; have HB := n2_; clear n0_ n1_ n2_; clear hb ho8))
   go_loopg [6] k (fun kq v6 w' => ∃ (x5_1 : List Int) (x6_1 : Int), v6 = .int .i64 x6_1 ∧ Aside0 (dropperref05_live.l0 kq a1 x5_1 x6_1 a0_0 l0_1 l0_2 = some r) ∧ Aside0 (kq ≤ k) ∧ Aside0 (Kd.R (Kd.int .i64) 3 w' w.heap.size (fun _ => True) v261 x5_1) ∧ Aside0 (w'.heap[gb259]? = some (.cells #[.int .i64 a0_0, (.slice A0_1 l0_1.length c0_1), (.slice A0_2 l0_2.length c0_2)] 25 (0, 0))) ∧ Aside0 (Below w.heap.size w w'))
   case atStart => exact ⟨(y260), (0), rsz, H', ⟨Nat.le_refl _⟩, ⟨by (with_reducible repeat (first | apply Kd.R_alloc | apply Kd.R_drewN | apply Kd.R_drew)); exact HO262.out⟩, ⟨by (with_reducible repeat (first | refine blk_drewN ?_ _ | refine blk_drew ?_ | refine blk_alloc ?_ _)); exact BK259.out⟩, ⟨by repeat (first | (with_reducible first | exact HB.out | apply below_alloc | apply pw_below_drewN | apply below_drew1 | refine below_set ?_ GE259.out) | exact HB.out)⟩⟩
   case round =>
    clear H'
    try clear p2
    try clear c3
    try clear c3b0
    try clear c3b1
    try clear c4
    try clear c4b0
    try clear c4b1
    try clear hcz6_0
    try clear hcz6_1
    try clear hcz6_2
    try clear hfz6_0
    try clear hfz6_1
    try clear hfz6_2
    obtain ⟨x5_1, x6_1, rfl, HA, HK1, HO_5, BK259, HB⟩ := hrel
    cases gk with
    | zero => exact absurd HA.out (by simp [dropperref05_live.l0])
    | succ k1 =>
     have H := HA.out
     clear HA
     simp only [dropperref05_live.l0] at H
     by_cases c9 : x6_1 < (l0_2.length : Int)
     ·
      rw [if_pos c9] at H
      have c9b0 : decide (x6_1 < (l0_2.length : Int)) = true := decide_eq_true c9
      clear c9
      by_cases c10 : 0 ≤ x6_1
      ·
       rw [if_pos c10] at H
       have c10b0 : decide (0 ≤ x6_1) = true := decide_eq_true c10
       clear c10
       replace H := Option.bind_eq_some_iff.mp H
       obtain ⟨t264, A110, H⟩ := H
       replace H : (dropperref05_live.l1 k1 a1 x5_1 x6_1 t264 0 a0_0 l0_1 l0_2) = some r := H
       have A11 := Aside0.mk A110
       clear A110
       have H' := Aside0.mk H
       clear H
       have hcz12_0 := blkc BK259.out 0 (.int .i64 a0_0) rfl
       have hcz12_1 := blkc BK259.out 1 (.slice A0_1 l0_1.length c0_1) rfl
       have hcz12_2 := blkc BK259.out 2 (.slice A0_2 l0_2.length c0_2) rfl
       have hfz12_0 := blk_frozen BK259.out 0
       have hfz12_1 := blk_frozen BK259.out 1
       have hfz12_2 := blk_frozen BK259.out 2
       try go_wp2
       have n0_ := Aside0.mk (Kd.R_drew HO_5.out)
       have n1_ := Aside0.mk (blk_drew BK259.out)
       have n2_ := Aside0.mk (below_drew1 HB.out)
       clear HO_5
       clear BK259
       clear HB
       have HO_5 := n0_
       have BK259 := n1_
       have HB := n2_
       clear n0_ n1_ n2_
       have p263 : 0 ≤ (x6_1 : Int) := of_decide_eq_true asz
       have q263 : x6_1 < (l0_2.length : Int) := of_decide_eq_true asz
       obtain ⟨ad263, e263, hx263_0, hx263_1⟩ := at_T71 HR0_2.out x6_1 p263 q263
       have hw263_1 := hx263_1
       have hw263_0 := hx263_0
       cases e263
       replace hx263_0 := (HB.out.cell (World.block_lt_of_cell? w _ hx263_0)).trans hx263_0
       replace hx263_1 := (HB.out.cell (World.block_lt_of_cell? w _ hx263_1)).trans hx263_1
       replace p263 := eq_true p263
       replace q263 := eq_true q263
       refine start_ (n := 10) (S := fun w' => w'.cell? ⟨gb259, 0, none⟩ = some (.int .i64 a0_0) ∧ w'.cell? ⟨gb259, 1, none⟩ = some (.slice A0_1 l0_1.length c0_1) ∧ w'.cell? ⟨gb259, 2, none⟩ = some (.slice (some ad263) l0_2.length c0_2) ∧ w'.cell? (ad263.add ((x6_1).toNat * 2)) = some (.int .i64 ((rd_T71 l0_2 x6_1).f0)) ∧ w'.cell? ⟨(ad263.add ((x6_1).toNat * 2)).block, (ad263.add ((x6_1).toNat * 2)).off + 1, none⟩ = some (.int .i64 ((rd_T71 l0_2 x6_1).f1))) (ds := []) #[false, false, false, false, false, false, false, false, false, false] (by kernel_rfl) rfl rfl ⟨(blk_cell BK259.out 0).trans rfl, (blk_cell BK259.out 1).trans rfl, (blk_cell BK259.out 2).trans rfl, ((HB.out.cell (World.block_lt_of_cell? w _ hw263_0)).trans hw263_0), ((HB.out.cell (World.block_lt_of_cell? w _ hw263_1)).trans hw263_1)⟩ (fun hHeld => ?_); refine with_tabW dropperref05_live.tab5 dropperref05_live.bits5 (fun HT_ HW_ => ?_)
       generalize wr.drew = w13 at HO_5 BK259 HB hx263_0 hx263_1 hHeld ⊢
       refine pst (i := 1) (N := some 21) (bz 10 2) (any_of HT_.out (by kernel_rfl)) ?_
       refine pst (i := 2) (N := some 22) (bz 10 6) (any_of HT_.out (by kernel_rfl)) ?_
       refine pst (i := 4) (N := some 24) (bz 10 22) (any_of HT_.out (by kernel_rfl)) ?_
       refine tst5 (i := 0) (N := some 20) (bz 10 23) (take_ofW HT_.out HW_.out (by kernel_rfl)) hHeld ?_
       refine tst5 (i := 3) (N := some 23) (bz 10 31) (take_ofW HT_.out HW_.out (by kernel_rfl)) hHeld ?_
       refine pst (i := 5) (N := some 25) (bz 10 63) (any_of HT_.out (by kernel_rfl)) ?_
       refine pst (i := 6) (N := some 26) (bz 10 127) (any_of HT_.out (by kernel_rfl)) ?_
       refine tst5 (i := 7) (N := some 27) (bz 10 255) (take_ofW HT_.out HW_.out (by kernel_rfl)) hHeld ?_
       refine one_ (i := 8) (N := some 28) #[true, true, true, true, true, true, true, true, true, false] rfl rfl (one_of HT_.out (by kernel_rfl)) (by decide) (fun K hK => ?_)
       refine goes_ Tryd.func67 (by kernel_rfl) rfl #[.agg #[.int .i64 a0_0, .slice A0_1 l0_1.length c0_1, .slice (some ad263) l0_2.length c0_2], .int .i64 a1, .int .i64 ((rd_T71 l0_2 x6_1).f0)] (by rfl) rfl rfl mapz ?_
       with_reducible refine (dropperref05_from.calls k1 a0_0 _ _ l0_1 _ _ l0_2 a1 ((rd_T71 l0_2 x6_1).f0) t264 _ ?side1 ?side2 ?side3 ?side4 A11.out).mono ?_
       (case side1 => exact cbz HR0_1)
       (case side2 => exact HC0_1.out)
       (case side3 => exact cbz HR0_2)
       (case side4 => exact HC0_2.out)
       rintro e w14 ⟨v265, rfl, ho0, hb⟩
       refine ⟨_, rfl, ?_⟩
       have n0_ := Aside0.mk (Kd.R_below (by (with_reducible repeat (first | apply Kd.R_alloc | apply Kd.R_drewN | apply Kd.R_drew)); exact HO_5.out) hb)
       have n1_ := Aside0.mk (Kd.R_lower ho0 (below_size bel))
       have n2_ := Aside0.mk (blk_below (g := gb259) blkz hb)
       have n3_ := Aside0.mk (below_step bel hb)
       clear HO_5
       clear BK259
       clear HB
       have HO_5 := n0_
       have HO266 := n1_
       have BK259 := n2_
       have HB := n3_
       clear n0_ n1_ n2_ n3_
       (try clear hb)
       (try clear hb2)
       (try clear hk)
       (try clear hi)
       (try clear ho0)
       refine hK.out _ _ ⟨(blk_cell BK259.out 0).trans rfl, (blk_cell BK259.out 1).trans rfl, (blk_cell BK259.out 2).trans rfl, ((HB.out.cell (World.block_lt_of_cell? w _ hw263_0)).trans hw263_0), ((HB.out.cell (World.block_lt_of_cell? w _ hw263_1)).trans hw263_1)⟩ (fun hHeld => ?_)
       clear hK K
       refine norm_ (a' := ?_) ?_ ?_
       rotate_left
       ·
        show Act.put _ (some 28) _ = _
        simp only [Act.put, List.setIfInBounds_toArray, List.set_cons_zero, List.set_cons_succ, i64_w, i32_w]
        rfl
       refine pst (i := 9) (N := some 7) (bz 10 1023) (any_of HT_.out (by kernel_rfl)) ?_
       refine done_ (done_of HT_.out (by kernel_rfl)) ?_
       try go_wp2
       go_loopg [8] k1 (fun kq v8 w' => ∃ (x5_2 : List Int) (x8_2 : Int), v8 = .int .i64 x8_2 ∧ Aside0 (dropperref05_live.l1 kq a1 x5_2 x6_1 t264 x8_2 a0_0 l0_1 l0_2 = some r) ∧ Aside0 (kq ≤ k1) ∧ Aside0 (Kd.R (Kd.int .i64) 3 w' w.heap.size (fun _ => True) v261 x5_2) ∧ Aside0 (Kd.R Kd.bool 4 w' w.heap.size (fun _ => True) v265 t264) ∧ Aside0 (w'.heap[gb259]? = some (.cells #[.int .i64 a0_0, (.slice A0_1 l0_1.length c0_1), (.slice (some ad263) l0_2.length c0_2)] 25 (0, 0))) ∧ Aside0 (Below w.heap.size w w'))
       case atStart => exact ⟨(x5_1), (0), rsz, H', ⟨Nat.le_refl _⟩, ⟨by (with_reducible repeat (first | apply Kd.R_alloc | apply Kd.R_drewN | apply Kd.R_drew)); exact HO_5.out⟩, ⟨by (with_reducible repeat (first | apply Kd.R_alloc | apply Kd.R_drewN | apply Kd.R_drew)); exact HO266.out⟩, ⟨by (with_reducible repeat (first | refine blk_drewN ?_ _ | refine blk_drew ?_ | refine blk_alloc ?_ _)); exact BK259.out⟩, ⟨by repeat (first | (with_reducible first | exact HB.out | apply below_alloc | apply pw_below_drewN | apply below_drew1 | refine below_set ?_ GE259.out) | exact HB.out)⟩⟩
       case round =>
        clear H'
        try clear c1
        try clear p2
        try clear q2
        try clear hx2
        try clear c3
        try clear c3b0
        try clear c3b1
        try clear c4
        try clear c4b0
        try clear c4b1
        try clear c6
        try clear c9
        try clear c9b0
        try clear c10
        try clear c10b0
        try clear hcz12_0
        try clear hcz12_1
        try clear hcz12_2
        try clear hcz6_0
        try clear hcz6_1
        try clear hcz6_2
        try clear hfz12_0
        try clear hfz12_1
        try clear hfz12_2
        try clear hfz6_0
        try clear hfz6_1
        try clear hfz6_2
        try clear hx263_0
        try clear hx263_1
        try clear p2
        try clear p263
        try clear q263
        obtain ⟨x5_2, x8_2, rfl, HA, HK2, HO_5, HO_7, BK259, HB⟩ := hrel
        cases gk with
        | zero => exact absurd HA.out (by simp [dropperref05_live.l1])
        | succ k2 =>
         have H := HA.out
         clear HA
         simp only [dropperref05_live.l1] at H
         by_cases c15 : x8_2 < a0_0
         ·
          rw [if_pos c15] at H
          have c15b0 : decide (x8_2 < a0_0) = true := decide_eq_true c15
          clear c15
          by_cases c16 : 0 ≤ x6_1
          ·
           rw [if_pos c16] at H
           have c16b0 : decide (0 ≤ x6_1) = true := decide_eq_true c16
           clear c16
           by_cases c17 : x6_1 < (l0_2.length : Int)
           ·
            rw [if_pos c17] at H
            have c17b0 : decide (x6_1 < (l0_2.length : Int)) = true := decide_eq_true c17
            clear c17
            by_cases c18 : 0 ≤ x8_2
            ·
             rw [if_pos c18] at H
             have c18b0 : decide (0 ≤ x8_2) = true := decide_eq_true c18
             clear c18
             by_cases c19 : x8_2 < (t264.length : Int)
             ·
              rw [if_pos c19] at H
              have c19b0 : decide (x8_2 < (t264.length : Int)) = true := decide_eq_true c19
              clear c19
              obtain ⟨bq20, hbq20⟩ : ∃ b_ : Bool, b_ = (rdOf false t264 x8_2) := ⟨_, rfl⟩
              replace H : (if bq20 = true then (if x8_2 < (x5_2.length : Int) then (if (rd x5_2 x8_2) = 0 then (dropperref05_live.l1 k2 a1 (x5_2.set (x8_2 : Int).toNat ((rd_T71 l0_2 x6_1).f1)) x6_1 t264 (wrap64 (x8_2 + 1)) a0_0 l0_1 l0_2) else (if (rd x5_2 x8_2) = ((rd_T71 l0_2 x6_1).f1) then (dropperref05_live.l1 k2 a1 x5_2 x6_1 t264 (wrap64 (x8_2 + 1)) a0_0 l0_1 l0_2) else (dropperref05_live.l1 k2 a1 (x5_2.set (x8_2 : Int).toNat (-1)) x6_1 t264 (wrap64 (x8_2 + 1)) a0_0 l0_1 l0_2))) else (none)) else (dropperref05_live.l1 k2 a1 x5_2 x6_1 t264 (wrap64 (x8_2 + 1)) a0_0 l0_1 l0_2)) = some r := by rw [← hbq20] at H; exact H
              have Nbq20 := Aside0.mk hbq20
              clear hbq20
              by_cases c21 : bq20 = true
              ·
               subst c21
               have H1 : (if x8_2 < (x5_2.length : Int) then (if (rd x5_2 x8_2) = 0 then (dropperref05_live.l1 k2 a1 (x5_2.set (x8_2 : Int).toNat ((rd_T71 l0_2 x6_1).f1)) x6_1 t264 (wrap64 (x8_2 + 1)) a0_0 l0_1 l0_2) else (if (rd x5_2 x8_2) = ((rd_T71 l0_2 x6_1).f1) then (dropperref05_live.l1 k2 a1 x5_2 x6_1 t264 (wrap64 (x8_2 + 1)) a0_0 l0_1 l0_2) else (dropperref05_live.l1 k2 a1 (x5_2.set (x8_2 : Int).toNat (-1)) x6_1 t264 (wrap64 (x8_2 + 1)) a0_0 l0_1 l0_2))) else (none)) = some r := by rw [if_pos rfl] at H; exact H
               clear H
               have H := H1
               clear H1
               by_cases c22 : x8_2 < (x5_2.length : Int)
               ·
                rw [if_pos c22] at H
                have c22b0 : decide (x8_2 < (x5_2.length : Int)) = true := decide_eq_true c22
                clear c22
                by_cases c23 : (rd x5_2 x8_2) = 0
                ·
                 rw [if_pos c23] at H
                 have c23b0 : ((rd x5_2 x8_2) == 0) = true := beq_iff_eq.mpr c23
                 have c23b1 : ((rd x5_2 x8_2) != 0) = false := bne_eq_false_iff_eq.mpr c23
                 clear c23
                 obtain ⟨y270, hy270⟩ : ∃ y_ : List Int, y_ = (x5_2.set (x8_2 : Int).toNat ((rd_T71 l0_2 x6_1).f1)) := ⟨_, rfl⟩
                 replace H : (dropperref05_live.l1 k2 a1 y270 x6_1 t264 (wrap64 (x8_2 + 1)) a0_0 l0_1 l0_2) = some r := by first | (rw [hy270]; with_reducible exact H) | (have H2_ := (Option.bind_some _ _).symm.trans H; rw [hy270]; with_reducible exact H2_) | (have H2_ := (Option.bind_some _ _).symm.trans H; with_reducible exact H2_) | with_reducible exact H | (rw [hy270]; exact H) | exact H
                 have Ny270 := Aside0.mk hy270
                 clear hy270
                 have H' := Aside0.mk H
                 clear H
                 have hcz25_0 := blkc BK259.out 0 (.int .i64 a0_0) rfl
                 have hcz25_1 := blkc BK259.out 1 (.slice A0_1 l0_1.length c0_1) rfl
                 have hcz25_2 := blkc BK259.out 2 (.slice (some ad263) l0_2.length c0_2) rfl
                 have hfz25_0 := blk_frozen BK259.out 0
                 have hfz25_1 := blk_frozen BK259.out 1
                 have hfz25_2 := blk_frozen BK259.out 2
                 have p267 : 0 ≤ (x6_1 : Int) := of_decide_eq_true asz
                 have q267 : x6_1 < (l0_2.length : Int) := of_decide_eq_true asz
                 obtain ⟨ad267, e267, hx267_0, hx267_1⟩ := at_T71 HR0_2.out x6_1 p267 q267
                 obtain rfl : ad263 = ad267 := (by injection e267)
                 replace hx267_0 := (HB.out.cell (World.block_lt_of_cell? w _ hx267_0)).trans hx267_0
                 replace hx267_1 := (HB.out.cell (World.block_lt_of_cell? w _ hx267_1)).trans hx267_1
                 replace p267 := eq_true p267
                 replace q267 := eq_true q267
                 obtain ⟨Ao26, co26, eo26⟩ := Kd.R_slice HO_7.out
                 subst eo26
                 have p268 : 0 ≤ (x8_2 : Int) := of_decide_eq_true asz
                 have q268 : x8_2 < (t264.length : Int) := of_decide_eq_true asz
                 obtain ⟨ad268, e268, hx268_0⟩ := Kd.at_bool (Kd.R_reads' HO_7.out).2.2 x8_2 p268 q268
                 (try rw [← Nbq20.out] at hx268_0)
                 cases e268
                 replace p268 := eq_true p268
                 replace q268 := eq_true q268
                 obtain ⟨Ao27, co27, eo27⟩ := Kd.R_slice HO_5.out
                 subst eo27
                 have p269 : 0 ≤ (x8_2 : Int) := of_decide_eq_true asz
                 have q269 : x8_2 < (x5_2.length : Int) := of_decide_eq_true asz
                 obtain ⟨ad269, e269, hx269_0⟩ := Kd.at_int (Kd.R_reads' HO_5.out).2.2 x8_2 p269 q269
                 cases e269
                 replace p269 := eq_true p269
                 replace q269 := eq_true q269
                 have p24 : 0 ≤ (x8_2 : Int) := of_decide_eq_true asz
                 have q24 : (x8_2 : Int) < ((x5_2.length : Int) : Int) := of_decide_eq_true asz
                 obtain ⟨go24, co24, eo24, gb24, gl24, cl24, HG24⟩ := Kd.R_form HO_5.out (by omega)
                 (first | cases eo24 | (injection eo24 with ea_ en_ ec_; (first | subst ea_ | (injection ea_ with ea_; subst ea_)); subst ec_; clear en_))
                 have GB24 := Aside0.mk gb24
                 have GG24 := Aside0.mk HG24
                 clear gb24 gl24 HG24
                 (first | simp only [add_plain] at hx269_0 | skip)
                 obtain ⟨hx24_0, hf24_0⟩ := Kd.R_celln 0 HO_5.out (x8_2 : Int) p24 q24
                 replace p24 := eq_true p24
                 replace q24 := eq_true q24
                 have HP28 := Kd.R_putg HO_5.out (x8_2 : Int) ((rd_T71 l0_2 x6_1).f1)
                 go_wp2_with (first | ((with_reducible refine gate_store (t := 3) (p := 56) rfl ?_); refine store_event (t := 3) (p := 56) (v := ?vo_w29) (w1 := (wr.setCell ⟨go24, (x8_2 : Int).toNat, none⟩ (.int .i64 ((rd_T71 l0_2 x6_1).f1)))) ?hg ?ho ?hn ?hr ?_; (case ho => rfl); (case hg => rfl); (case hn => rfl); (case hr => first | (go_simp; done) | (go_simp; rfl)); intro w29 hw; have hg : wr.grownBy w29 (some go24) := (by rw [hw]; exact HP28.2); have hp_ : Kd.R (Kd.int .i64) 3 w29 w.heap.size (fun _ => True) (.slice (some ⟨go24, 0, none⟩) x5_2.length co27) y270 := (by rw [hw, Ny270.out]; exact HP28.1); clear HP28; have n0_ := Aside0.mk (hp_); have n1_ := Aside0.mk (Kd.R_over' (v := (.slice (some ⟨go24, 0, none⟩) x5_2.length co27)) (by (with_reducible repeat (first | apply Kd.R_alloc | apply Kd.R_drewN | apply Kd.R_drew)); exact HO_7.out) (Kd.R_typed HO_5.out) (by decide) hg); have n2_ := Aside0.mk (blk_grown (g := gb259) (o := .cells #[.int .i64 a0_0, .slice A0_1 l0_1.length c0_1, .slice (some ad263) l0_2.length c0_2] 25 (0, 0)) blkz hg (Kd.R_ne HO_5.out BK259.out (by decide))); have n3_ := Aside0.mk ((by rw [hw]; exact below_set (HB.out) GB24.out : Below w.heap.size w w29)); clear HO_5; clear HO_7; clear BK259; clear HB; have HO_5 := n0_; have HO_7 := n1_; have BK259 := n2_; have HB := n3_; clear n0_ n1_ n2_ n3_; clear hg hw hp_))
                 go_roundg k2
                 case measure => have := HK1.out; have := HK2.out; omega
                 case rel => exact ⟨(y270), (wrap64 (x8_2 + 1)), rsz, H', ⟨by have := HK1.out; have := HK2.out; omega⟩, ⟨by (with_reducible repeat (first | apply Kd.R_alloc | apply Kd.R_drewN | apply Kd.R_drew)); exact HO_5.out⟩, ⟨by (with_reducible repeat (first | apply Kd.R_alloc | apply Kd.R_drewN | apply Kd.R_drew)); exact HO_7.out⟩, ⟨by (with_reducible repeat (first | refine blk_drewN ?_ _ | refine blk_drew ?_ | refine blk_alloc ?_ _)); exact BK259.out⟩, ⟨by repeat (first | (with_reducible first | exact HB.out | apply below_alloc | apply pw_below_drewN | apply below_drew1 | refine below_set ?_ GE259.out) | exact HB.out)⟩⟩
                ·
                 rw [if_neg c23] at H
                 have c23b0 : ((rd x5_2 x8_2) == 0) = false := beq_eq_false_iff_ne.mpr c23
                 have c23b1 : ((rd x5_2 x8_2) != 0) = true := bne_iff_ne.mpr c23
                 by_cases c30 : (rd x5_2 x8_2) = ((rd_T71 l0_2 x6_1).f1)
                 ·
                  rw [if_pos c30] at H
                  have c30b0 : ((rd x5_2 x8_2) == ((rd_T71 l0_2 x6_1).f1)) = true := beq_iff_eq.mpr c30
                  have c30b1 : ((rd x5_2 x8_2) != ((rd_T71 l0_2 x6_1).f1)) = false := bne_eq_false_iff_eq.mpr c30
                  clear c30
                  have H' := Aside0.mk H
                  clear H
                  have hcz31_0 := blkc BK259.out 0 (.int .i64 a0_0) rfl
                  have hcz31_1 := blkc BK259.out 1 (.slice A0_1 l0_1.length c0_1) rfl
                  have hcz31_2 := blkc BK259.out 2 (.slice (some ad263) l0_2.length c0_2) rfl
                  have hfz31_0 := blk_frozen BK259.out 0
                  have hfz31_1 := blk_frozen BK259.out 1
                  have hfz31_2 := blk_frozen BK259.out 2
                  have p267 : 0 ≤ (x6_1 : Int) := of_decide_eq_true asz
                  have q267 : x6_1 < (l0_2.length : Int) := of_decide_eq_true asz
                  obtain ⟨ad267, e267, hx267_0, hx267_1⟩ := at_T71 HR0_2.out x6_1 p267 q267
                  obtain rfl : ad263 = ad267 := (by injection e267)
                  replace hx267_0 := (HB.out.cell (World.block_lt_of_cell? w _ hx267_0)).trans hx267_0
                  replace hx267_1 := (HB.out.cell (World.block_lt_of_cell? w _ hx267_1)).trans hx267_1
                  replace p267 := eq_true p267
                  replace q267 := eq_true q267
                  obtain ⟨Ao32, co32, eo32⟩ := Kd.R_slice HO_7.out
                  subst eo32
                  have p268 : 0 ≤ (x8_2 : Int) := of_decide_eq_true asz
                  have q268 : x8_2 < (t264.length : Int) := of_decide_eq_true asz
                  obtain ⟨ad268, e268, hx268_0⟩ := Kd.at_bool (Kd.R_reads' HO_7.out).2.2 x8_2 p268 q268
                  (try rw [← Nbq20.out] at hx268_0)
                  cases e268
                  replace p268 := eq_true p268
                  replace q268 := eq_true q268
                  obtain ⟨Ao33, co33, eo33⟩ := Kd.R_slice HO_5.out
                  subst eo33
                  have p269 : 0 ≤ (x8_2 : Int) := of_decide_eq_true asz
                  have q269 : x8_2 < (x5_2.length : Int) := of_decide_eq_true asz
                  obtain ⟨ad269, e269, hx269_0⟩ := Kd.at_int (Kd.R_reads' HO_5.out).2.2 x8_2 p269 q269
                  cases e269
                  replace p269 := eq_true p269
                  replace q269 := eq_true q269
                  have p271 : 0 ≤ (x8_2 : Int) := of_decide_eq_true asz
                  have q271 : x8_2 < (x5_2.length : Int) := of_decide_eq_true asz
                  obtain ⟨ad271, e271, hx271_0⟩ := Kd.at_int (Kd.R_reads' HO_5.out).2.2 x8_2 p271 q271
                  obtain rfl : ad269 = ad271 := (by injection e271)
                  replace p271 := eq_true p271
                  replace q271 := eq_true q271
                  go_wp2
                  go_roundg k2
                  case measure => have := HK1.out; have := HK2.out; omega
                  case rel => exact ⟨(x5_2), (wrap64 (x8_2 + 1)), rsz, H', ⟨by have := HK1.out; have := HK2.out; omega⟩, ⟨by (with_reducible repeat (first | apply Kd.R_alloc | apply Kd.R_drewN | apply Kd.R_drew)); exact HO_5.out⟩, ⟨by (with_reducible repeat (first | apply Kd.R_alloc | apply Kd.R_drewN | apply Kd.R_drew)); exact HO_7.out⟩, ⟨by (with_reducible repeat (first | refine blk_drewN ?_ _ | refine blk_drew ?_ | refine blk_alloc ?_ _)); exact BK259.out⟩, ⟨by repeat (first | (with_reducible first | exact HB.out | apply below_alloc | apply pw_below_drewN | apply below_drew1 | refine below_set ?_ GE259.out) | exact HB.out)⟩⟩
                 ·
                  rw [if_neg c30] at H
                  have c30b0 : ((rd x5_2 x8_2) == ((rd_T71 l0_2 x6_1).f1)) = false := beq_eq_false_iff_ne.mpr c30
                  have c30b1 : ((rd x5_2 x8_2) != ((rd_T71 l0_2 x6_1).f1)) = true := bne_iff_ne.mpr c30
                  obtain ⟨y272, hy272⟩ : ∃ y_ : List Int, y_ = (x5_2.set (x8_2 : Int).toNat (-1)) := ⟨_, rfl⟩
                  replace H : (dropperref05_live.l1 k2 a1 y272 x6_1 t264 (wrap64 (x8_2 + 1)) a0_0 l0_1 l0_2) = some r := by first | (rw [hy272]; with_reducible exact H) | (have H2_ := (Option.bind_some _ _).symm.trans H; rw [hy272]; with_reducible exact H2_) | (have H2_ := (Option.bind_some _ _).symm.trans H; with_reducible exact H2_) | with_reducible exact H | (rw [hy272]; exact H) | exact H
                  have Ny272 := Aside0.mk hy272
                  clear hy272
                  have H' := Aside0.mk H
                  clear H
                  have hcz35_0 := blkc BK259.out 0 (.int .i64 a0_0) rfl
                  have hcz35_1 := blkc BK259.out 1 (.slice A0_1 l0_1.length c0_1) rfl
                  have hcz35_2 := blkc BK259.out 2 (.slice (some ad263) l0_2.length c0_2) rfl
                  have hfz35_0 := blk_frozen BK259.out 0
                  have hfz35_1 := blk_frozen BK259.out 1
                  have hfz35_2 := blk_frozen BK259.out 2
                  have p267 : 0 ≤ (x6_1 : Int) := of_decide_eq_true asz
                  have q267 : x6_1 < (l0_2.length : Int) := of_decide_eq_true asz
                  obtain ⟨ad267, e267, hx267_0, hx267_1⟩ := at_T71 HR0_2.out x6_1 p267 q267
                  obtain rfl : ad263 = ad267 := (by injection e267)
                  replace hx267_0 := (HB.out.cell (World.block_lt_of_cell? w _ hx267_0)).trans hx267_0
                  replace hx267_1 := (HB.out.cell (World.block_lt_of_cell? w _ hx267_1)).trans hx267_1
                  replace p267 := eq_true p267
                  replace q267 := eq_true q267
                  obtain ⟨Ao36, co36, eo36⟩ := Kd.R_slice HO_7.out
                  subst eo36
                  have p268 : 0 ≤ (x8_2 : Int) := of_decide_eq_true asz
                  have q268 : x8_2 < (t264.length : Int) := of_decide_eq_true asz
                  obtain ⟨ad268, e268, hx268_0⟩ := Kd.at_bool (Kd.R_reads' HO_7.out).2.2 x8_2 p268 q268
                  (try rw [← Nbq20.out] at hx268_0)
                  cases e268
                  replace p268 := eq_true p268
                  replace q268 := eq_true q268
                  obtain ⟨Ao37, co37, eo37⟩ := Kd.R_slice HO_5.out
                  subst eo37
                  have p269 : 0 ≤ (x8_2 : Int) := of_decide_eq_true asz
                  have q269 : x8_2 < (x5_2.length : Int) := of_decide_eq_true asz
                  obtain ⟨ad269, e269, hx269_0⟩ := Kd.at_int (Kd.R_reads' HO_5.out).2.2 x8_2 p269 q269
                  cases e269
                  replace p269 := eq_true p269
                  replace q269 := eq_true q269
                  have p271 : 0 ≤ (x8_2 : Int) := of_decide_eq_true asz
                  have q271 : x8_2 < (x5_2.length : Int) := of_decide_eq_true asz
                  obtain ⟨ad271, e271, hx271_0⟩ := Kd.at_int (Kd.R_reads' HO_5.out).2.2 x8_2 p271 q271
                  obtain rfl : ad269 = ad271 := (by injection e271)
                  replace p271 := eq_true p271
                  replace q271 := eq_true q271
                  have p34 : 0 ≤ (x8_2 : Int) := of_decide_eq_true asz
                  have q34 : (x8_2 : Int) < ((x5_2.length : Int) : Int) := of_decide_eq_true asz
                  obtain ⟨go34, co34, eo34, gb34, gl34, cl34, HG34⟩ := Kd.R_form HO_5.out (by omega)
                  (first | cases eo34 | (injection eo34 with ea_ en_ ec_; (first | subst ea_ | (injection ea_ with ea_; subst ea_)); subst ec_; clear en_))
                  have GB34 := Aside0.mk gb34
                  have GG34 := Aside0.mk HG34
                  clear gb34 gl34 HG34
                  (first | simp only [add_plain] at hx269_0 | skip)
                  (first | simp only [add_plain] at hx271_0 | skip)
                  obtain ⟨hx34_0, hf34_0⟩ := Kd.R_celln 0 HO_5.out (x8_2 : Int) p34 q34
                  replace p34 := eq_true p34
                  replace q34 := eq_true q34
                  have HP38 := Kd.R_putg HO_5.out (x8_2 : Int) (-1)
                  go_wp2_with (first | ((with_reducible refine gate_store (t := 3) (p := 66) rfl ?_); refine store_event (t := 3) (p := 66) (v := ?vo_w39) (w1 := (wr.setCell ⟨go34, (x8_2 : Int).toNat, none⟩ (.int .i64 (-1)))) ?hg ?ho ?hn ?hr ?_; (case ho => rfl); (case hg => rfl); (case hn => rfl); (case hr => first | (go_simp; done) | (go_simp; rfl)); intro w39 hw; have hg : wr.grownBy w39 (some go34) := (by rw [hw]; exact HP38.2); have hp_ : Kd.R (Kd.int .i64) 3 w39 w.heap.size (fun _ => True) (.slice (some ⟨go34, 0, none⟩) x5_2.length co37) y272 := (by rw [hw, Ny272.out]; exact HP38.1); clear HP38; have n0_ := Aside0.mk (hp_); have n1_ := Aside0.mk (Kd.R_over' (v := (.slice (some ⟨go34, 0, none⟩) x5_2.length co37)) (by (with_reducible repeat (first | apply Kd.R_alloc | apply Kd.R_drewN | apply Kd.R_drew)); exact HO_7.out) (Kd.R_typed HO_5.out) (by decide) hg); have n2_ := Aside0.mk (blk_grown (g := gb259) (o := .cells #[.int .i64 a0_0, .slice A0_1 l0_1.length c0_1, .slice (some ad263) l0_2.length c0_2] 25 (0, 0)) blkz hg (Kd.R_ne HO_5.out BK259.out (by decide))); have n3_ := Aside0.mk ((by rw [hw]; exact below_set (HB.out) GB34.out : Below w.heap.size w w39)); clear HO_5; clear HO_7; clear BK259; clear HB; have HO_5 := n0_; have HO_7 := n1_; have BK259 := n2_; have HB := n3_; clear n0_ n1_ n2_ n3_; clear hg hw hp_))
                  go_roundg k2
                  case measure => have := HK1.out; have := HK2.out; omega
                  case rel => exact ⟨(y272), (wrap64 (x8_2 + 1)), rsz, H', ⟨by have := HK1.out; have := HK2.out; omega⟩, ⟨by (with_reducible repeat (first | apply Kd.R_alloc | apply Kd.R_drewN | apply Kd.R_drew)); exact HO_5.out⟩, ⟨by (with_reducible repeat (first | apply Kd.R_alloc | apply Kd.R_drewN | apply Kd.R_drew)); exact HO_7.out⟩, ⟨by (with_reducible repeat (first | refine blk_drewN ?_ _ | refine blk_drew ?_ | refine blk_alloc ?_ _)); exact BK259.out⟩, ⟨by repeat (first | (with_reducible first | exact HB.out | apply below_alloc | apply pw_below_drewN | apply below_drew1 | refine below_set ?_ GE259.out) | exact HB.out)⟩⟩
               ·
                rw [if_neg c22] at H
                exact absurd H (by simp)
              ·
               replace c21 := Bool.eq_false_iff.mpr c21
               subst c21
               have H1 : (dropperref05_live.l1 k2 a1 x5_2 x6_1 t264 (wrap64 (x8_2 + 1)) a0_0 l0_1 l0_2) = some r := by rw [if_neg (show ¬ (false = true) by decide)] at H; exact H
               clear H
               have H := H1
               clear H1
               have H' := Aside0.mk H
               clear H
               have hcz40_0 := blkc BK259.out 0 (.int .i64 a0_0) rfl
               have hcz40_1 := blkc BK259.out 1 (.slice A0_1 l0_1.length c0_1) rfl
               have hcz40_2 := blkc BK259.out 2 (.slice (some ad263) l0_2.length c0_2) rfl
               have hfz40_0 := blk_frozen BK259.out 0
               have hfz40_1 := blk_frozen BK259.out 1
               have hfz40_2 := blk_frozen BK259.out 2
               have p267 : 0 ≤ (x6_1 : Int) := of_decide_eq_true asz
               have q267 : x6_1 < (l0_2.length : Int) := of_decide_eq_true asz
               obtain ⟨ad267, e267, hx267_0, hx267_1⟩ := at_T71 HR0_2.out x6_1 p267 q267
               obtain rfl : ad263 = ad267 := (by injection e267)
               replace hx267_0 := (HB.out.cell (World.block_lt_of_cell? w _ hx267_0)).trans hx267_0
               replace hx267_1 := (HB.out.cell (World.block_lt_of_cell? w _ hx267_1)).trans hx267_1
               replace p267 := eq_true p267
               replace q267 := eq_true q267
               obtain ⟨Ao41, co41, eo41⟩ := Kd.R_slice HO_7.out
               subst eo41
               have p268 : 0 ≤ (x8_2 : Int) := of_decide_eq_true asz
               have q268 : x8_2 < (t264.length : Int) := of_decide_eq_true asz
               obtain ⟨ad268, e268, hx268_0⟩ := Kd.at_bool (Kd.R_reads' HO_7.out).2.2 x8_2 p268 q268
               (try rw [← Nbq20.out] at hx268_0)
               cases e268
               replace p268 := eq_true p268
               replace q268 := eq_true q268
               go_wp2
               go_roundg k2
               case measure => have := HK1.out; have := HK2.out; omega
               case rel => exact ⟨(x5_2), (wrap64 (x8_2 + 1)), rsz, H', ⟨by have := HK1.out; have := HK2.out; omega⟩, ⟨by (with_reducible repeat (first | apply Kd.R_alloc | apply Kd.R_drewN | apply Kd.R_drew)); exact HO_5.out⟩, ⟨by (with_reducible repeat (first | apply Kd.R_alloc | apply Kd.R_drewN | apply Kd.R_drew)); exact HO_7.out⟩, ⟨by (with_reducible repeat (first | refine blk_drewN ?_ _ | refine blk_drew ?_ | refine blk_alloc ?_ _)); exact BK259.out⟩, ⟨by repeat (first | (with_reducible first | exact HB.out | apply below_alloc | apply pw_below_drewN | apply below_drew1 | refine below_set ?_ GE259.out) | exact HB.out)⟩⟩
             ·
              rw [if_neg c19] at H
              exact absurd H (by simp)
            ·
             rw [if_neg c18] at H
             exact absurd H (by simp)
           ·
            rw [if_neg c17] at H
            exact absurd H (by simp)
          ·
           rw [if_neg c16] at H
           exact absurd H (by simp)
         ·
          rw [if_neg c15] at H
          have c15b0 : decide (x8_2 < a0_0) = false := decide_eq_false c15
          clear c15
          have H' := Aside0.mk H
          clear H
          have hcz42_0 := blkc BK259.out 0 (.int .i64 a0_0) rfl
          have hcz42_1 := blkc BK259.out 1 (.slice A0_1 l0_1.length c0_1) rfl
          have hcz42_2 := blkc BK259.out 2 (.slice (some ad263) l0_2.length c0_2) rfl
          have hfz42_0 := blk_frozen BK259.out 0
          have hfz42_1 := blk_frozen BK259.out 1
          have hfz42_2 := blk_frozen BK259.out 2
          go_wp2
          go_roundg k2
          case measure => have := HK1.out; have := HK2.out; omega
          case rel => exact ⟨(x5_2), (wrap64 (x6_1 + 1)), rsz, H', ⟨by have := HK1.out; have := HK2.out; omega⟩, ⟨by (with_reducible repeat (first | apply Kd.R_alloc | apply Kd.R_drewN | apply Kd.R_drew)); exact HO_5.out⟩, ⟨by (with_reducible repeat (first | refine blk_drewN ?_ _ | refine blk_drew ?_ | refine blk_alloc ?_ _)); exact BK259.out⟩, ⟨by repeat (first | (with_reducible first | exact HB.out | apply below_alloc | apply pw_below_drewN | apply below_drew1 | refine below_set ?_ GE259.out) | exact HB.out)⟩⟩
      ·
       rw [if_neg c10] at H
       exact absurd H (by simp)
     ·
      rw [if_neg c9] at H
      have c9b0 : decide (x6_1 < (l0_2.length : Int)) = false := decide_eq_false c9
      clear c9
      obtain rfl := Option.some.inj H
      have hcz43_0 := blkc BK259.out 0 (.int .i64 a0_0) rfl
      have hcz43_1 := blkc BK259.out 1 (.slice A0_1 l0_1.length c0_1) rfl
      have hcz43_2 := blkc BK259.out 2 (.slice A0_2 l0_2.length c0_2) rfl
      have hfz43_0 := blk_frozen BK259.out 0
      have hfz43_1 := blk_frozen BK259.out 1
      have hfz43_2 := blk_frozen BK259.out 2
      go_wp2
      go_ret
      exact ⟨_, by first | rfl | (simp [errW_none, errW_some] <;> rfl) | (simp [*, errW_none, errW_some] <;> rfl), by (with_reducible repeat (first | apply Kd.R_alloc | apply Kd.R_drewN | apply Kd.R_drew)); exact HO_5.out, by repeat (first | (with_reducible first | exact HB.out | apply below_alloc | apply pw_below_drewN | apply below_drew1 | refine below_set ?_ GE259.out) | exact HB.out)⟩
  ·
   rw [if_neg c4] at H
   exact absurd H (by simp)
 ·
  rw [if_neg c3] at H
  exact absurd H (by simp)

end Go.Proofs.YtoilhnmdemnknaaDoor.XFeed

-- Written by wip/xprint.py of this repo, over the kit's print.py: out of the translation; the oracles in it are by hand. Not trusted: Lean checks it.
namespace Go.Proofs.YtoilhnmdemnknaaDoor.XFeed
open Go.RowKit Go.Proofs.YtoilhnmdemnknaaDoorW.PrintWords Go.Proofs.YtoilhnmdemnknaaDoorW.PrintLast Go.Proofs.YtoilhnmdemnknaaDoorW.PrintMore
attribute [local go_sem] max2_int min2_int max_two min_two max_three min_three max_four min_four   -- for this text's walks alone
set_option linter.unusedVariables false
set_option linter.unusedSimpArgs false

/-! ### dropperref05_Isolates: function 23 -/
mutual
def dropperref05_Isolates.l0 : Nat → Int → Int → List Int → Int → Int → List (S69) → List (S71) → Option (Bool × Int)
 | 0, _, _, _, _, _, _, _ => none
 | k + 1, x1, x2, x3, x11, x365000, x365001, x365002 => if x11 < (x3.length : Int) then (if 0 ≤ x11 then (if (rd x3 x11) < 0 then (some (false, 0)) else (if (rd x3 x11) ≥ (x365001.length : Int) then (some (false, 0)) else ((dropperref05_closed.f x1 (rd x3 x11)).bind fun t369 => (if t369 = true then (if x11 > 0 then (if 0 ≤ (wrap64 (x11 - 1)) then (if (wrap64 (x11 - 1)) < (x3.length : Int) then (if (rd x3 x11) ≤ (rd x3 (wrap64 (x11 - 1))) then (some (false, 0)) else (dropperref05_Isolates.l0 k x1 x2 x3 (wrap64 (x11 + 1)) x365000 x365001 x365002)) else (none)) else (none)) else (dropperref05_Isolates.l0 k x1 x2 x3 (wrap64 (x11 + 1)) x365000 x365001 x365002)) else (some (false, 0)))))) else (none)) else (dropperref05_Isolates.l1 k x1 x2 x3 0 x365000 x365001 x365002)
def dropperref05_Isolates.l1 : Nat → Int → Int → List Int → Int → Int → List (S69) → List (S71) → Option (Bool × Int)
 | 0, _, _, _, _, _, _, _ => none
 | k + 1, x1, x2, x3, x12, x365000, x365001, x365002 => if x12 < (x3.length : Int) then (if 0 ≤ x12 then (if 0 ≤ (rd x3 x12) then (dropperref05_Isolates.l1 k (wrap64 (x1 - (shl .i64 1 (rd x3 x12)))) x2 x3 (wrap64 (x12 + 1)) x365000 x365001 x365002) else (none)) else (none)) else ((dropperref05_live.f k x365000 x365001 x365002 x1).bind fun t373 => (if 0 ≤ x2 then (if x2 < (t373.length : Int) then (some (((rd t373 x2) == 0), 0)) else (none)) else (none)))
end
def dropperref05_Isolates.f (k : Nat) (a0_0 : Int) (l0_1 : List (S69)) (l0_2 : List (S71)) (a1 : Int) (a2 : Int) (l3 : List Int) : Option (Bool × Int) := (dropperref05_Why.f k a0_0 l0_1 l0_2 a1 a2).bind fun t365 => (if t365 = 0 then (dropperref05_Isolates.l0 k a1 a2 l3 0 a0_0 l0_1 l0_2) else (some (false, t365)))
theorem dropperref05_Isolates.mono_l : ∀ k, (∀ y0 y1 y2 y3 y4 y5 y6, LeO (dropperref05_Isolates.l0 k y0 y1 y2 y3 y4 y5 y6) (dropperref05_Isolates.l0 (k + 1) y0 y1 y2 y3 y4 y5 y6)) ∧ (∀ y0 y1 y2 y3 y4 y5 y6, LeO (dropperref05_Isolates.l1 k y0 y1 y2 y3 y4 y5 y6) (dropperref05_Isolates.l1 (k + 1) y0 y1 y2 y3 y4 y5 y6))
 | 0 => ⟨fun _ _ _ _ _ _ _ r h => by simp [dropperref05_Isolates.l0] at h, fun _ _ _ _ _ _ _ r h => by simp [dropperref05_Isolates.l1] at h⟩
 | k + 1 => by
  obtain ⟨ih0, ih1⟩ := dropperref05_Isolates.mono_l k
  refine ⟨?_, ?_⟩
  ·
   intro y0 y1 y2 y3 y4 y5 y6
   unfold dropperref05_Isolates.l0
   repeat' first
   | (with_reducible exact ih0 _ _ _ _ _ _ _)
   | (with_reducible exact ih1 _ _ _ _ _ _ _)
   | (with_reducible exact dropperref05_Why.mono _ _ _ _ _ _)
   | (with_reducible exact dropperref05_live.mono _ _ _ _ _)
   | (with_reducible exact LeO.refl _)
   | (with_reducible exact LeO.none _)
   | (with_reducible refine LeO.ite ?_ ?_)
   | (with_reducible refine LeO.bind ?_ (fun _ => ?_))
   | exact ih0 _ _ _ _ _ _ _
   | exact ih1 _ _ _ _ _ _ _
   | exact dropperref05_Why.mono _ _ _ _ _ _
   | exact dropperref05_live.mono _ _ _ _ _
   | exact LeO.none _
   | refine LeO.ite ?_ ?_
   | refine LeO.bind ?_ (fun _ => ?_)
  ·
   intro y0 y1 y2 y3 y4 y5 y6
   unfold dropperref05_Isolates.l1
   repeat' first
   | (with_reducible exact ih0 _ _ _ _ _ _ _)
   | (with_reducible exact ih1 _ _ _ _ _ _ _)
   | (with_reducible exact dropperref05_Why.mono _ _ _ _ _ _)
   | (with_reducible exact dropperref05_live.mono _ _ _ _ _)
   | (with_reducible exact LeO.refl _)
   | (with_reducible exact LeO.none _)
   | (with_reducible refine LeO.ite ?_ ?_)
   | (with_reducible refine LeO.bind ?_ (fun _ => ?_))
   | exact ih0 _ _ _ _ _ _ _
   | exact ih1 _ _ _ _ _ _ _
   | exact dropperref05_Why.mono _ _ _ _ _ _
   | exact dropperref05_live.mono _ _ _ _ _
   | exact LeO.none _
   | refine LeO.ite ?_ ?_
   | refine LeO.bind ?_ (fun _ => ?_)
theorem dropperref05_Isolates.mono : ∀ a0 a1 a2 a3 a4 a5 k, LeO (dropperref05_Isolates.f k a0 a1 a2 a3 a4 a5) (dropperref05_Isolates.f (k + 1) a0 a1 a2 a3 a4 a5) := by
 intro a0 a1 a2 a3 a4 a5 k
 obtain ⟨ih0, ih1⟩ := dropperref05_Isolates.mono_l k
 unfold dropperref05_Isolates.f
 repeat' first
   | (with_reducible exact ih0 _ _ _ _ _ _ _)
   | (with_reducible exact ih1 _ _ _ _ _ _ _)
   | (with_reducible exact dropperref05_Why.mono _ _ _ _ _ _)
   | (with_reducible exact dropperref05_live.mono _ _ _ _ _)
   | (with_reducible exact LeO.refl _)
   | (with_reducible exact LeO.none _)
   | (with_reducible refine LeO.ite ?_ ?_)
   | (with_reducible refine LeO.bind ?_ (fun _ => ?_))
   | exact ih0 _ _ _ _ _ _ _
   | exact ih1 _ _ _ _ _ _ _
   | exact dropperref05_Why.mono _ _ _ _ _ _
   | exact dropperref05_live.mono _ _ _ _ _
   | exact LeO.none _
   | refine LeO.ite ?_ ?_
   | refine LeO.bind ?_ (fun _ => ?_)
def dropperref05_Isolates.T7 : Bool × List (List Nat × List Nat) := (true, [([], []), ([], []), ([0, 1], [0, 1]), ([2], [2]), ([3], [3]), ([4], [4]), ([5], [5]), ([5], [5]), ([6, 7, 5], [5, 6, 7]), ([8, 5], [5, 8]), ([5], [5]), ([10, 5], [5, 10]), ([11, 5], [5, 11]), ([9, 12, 5], [5, 9, 12]), ([5, 13], [5, 13]), ([14, 5], [14]), ([15], [15]), ([15], [15]), ([15], [15]), ([17, 18, 15], [15, 17, 18]), ([19, 15], [15, 19]), ([16, 20, 15, 15], [15, 16, 20]), ([21, 15], [15, 21]), ([15, 22], [15, 22]), ([23, 21], [23]), ([24], [24]), ([25, 24], [24, 25]), ([26, 24, 24], [24, 26]), ([27], [27]), ([27], [27]), ([28, 29, 27], [27, 28, 29]), ([30, 27], [27, 30]), ([27], [27]), ([27], [27]), ([33, 27], [27, 33]), ([32, 34, 27], [27, 32, 34]), ([35, 27], [27, 35]), ([31, 36, 27], [27, 31, 36]), ([27, 37, 24], [24, 27, 37]), ([24, 38], [24, 38])])
def dropperref05_Isolates.B7 : List Nat := [0, 0, 3, 7, 15, 31, 63, 63, 255, 511, 63, 1087, 3135, 8191, 16383, 32767, 65535, 65535, 65535, 458751, 983039, 2097151, 4194303, 8388607, 16777215, 33554431, 67108863, 134217727, 268435455, 268435455, 1073741823, 2147483647, 268435455, 268435455, 8858370047, 30333206527, 64692944895, 137438953471, 274877906943, 549755813887]
theorem dropperref05_Isolates.tab7 : rtab .any (opsOf Tryd.f23 7) = dropperref05_Isolates.T7 := by kernel_rfl
theorem dropperref05_Isolates.bits7 : waitsOk dropperref05_Isolates.T7.2 dropperref05_Isolates.B7 = true := by kernel_rfl
set_option maxHeartbeats 8000000 in
set_option maxRecDepth 100000 in
theorem dropperref05_Isolates.calls (k : Nat) (a0_0 : Int) (A0_1 : Option Addr) (c0_1 : Nat) (l0_1 : List (S69)) (A0_2 : Option Addr) (c0_2 : Nat) (l0_2 : List (S71)) (a1 : Int) (a2 : Int) (A3 : Option Addr) (c3 : Nat) (l3 : List Int) (r1 : Bool) (r2 : Int) (w : World) (hr0_1 : Kd.C k69 w A0_1 l0_1.length l0_1) (hc0_1 : l0_1.length ≤ c0_1) (hr0_2 : Kd.C k71 w A0_2 l0_2.length l0_2) (hc0_2 : l0_2.length ≤ c0_2) (hr3 : Kd.C (Kd.int .i64) w A3 l3.length l3) (hc3 : l3.length ≤ c3) (h : dropperref05_Isolates.f k a0_0 l0_1 l0_2 a1 a2 l3 = some (r1, r2)) :
  Calls Tryd.prog 23 #[.agg #[.int .i64 a0_0, .slice A0_1 l0_1.length c0_1, .slice A0_2 l0_2.length c0_2], .int .i64 a1, .int .i64 a2, .slice A3 l3.length c3] w fun e w' => e = .returned (.tuple #[.bool r1, .int .i64 r2]) ∧ Below w.heap.size w w' := by
 have hu25 := Tryd.underlying25
 have HR0_1 := Aside0.mk hr0_1
 have HC0_1 := Aside0.mk hc0_1
 clear hr0_1 hc0_1
 have HR0_2 := Aside0.mk hr0_2
 have HC0_2 := Aside0.mk hc0_2
 clear hr0_2 hc0_2
 have HR3 := Aside0.mk hr3
 have HC3 := Aside0.mk hc3
 clear hr3 hc3
 have HB := Aside0.mk (Below.refl w.heap.size w)
 have H : ((dropperref05_Why.f k a0_0 l0_1 l0_2 a1 a2).bind fun t365 => (if t365 = 0 then (dropperref05_Isolates.l0 k a1 a2 l3 0 a0_0 l0_1 l0_2) else (some (false, t365)))) = some (r1, r2) := h
 clear h
 replace H := Option.bind_eq_some_iff.mp H
 obtain ⟨t365, A50, H⟩ := H
 replace H : (if t365 = 0 then (dropperref05_Isolates.l0 k a1 a2 l3 0 a0_0 l0_1 l0_2) else (some (false, t365))) = some (r1, r2) := H
 have A5 := Aside0.mk A50
 clear A50
 by_cases c6 : t365 = 0
 ·
  rw [if_pos c6] at H
  have c6b0 : (t365 == 0) = true := beq_iff_eq.mpr c6
  have c6b1 : (t365 != 0) = false := bne_eq_false_iff_eq.mpr c6
  clear c6
  have H' := Aside0.mk H
  clear H
  go_enter Tryd.func23, Tryd.ntmps23
  go_wp2_with (first | ((with_reducible refine gate_dst (N := 4) rfl ?_); (try (refine gate_guard (by rfl) ?_; dsimp only)); refine box_event ?hg (N := 4) ?hd (cs := #[.int .i64 a0_0, .slice A0_1 l0_1.length c0_1, .slice A0_2 l0_2.length c0_2]) (t := 25) ?hr ?_; (case hd => rfl); (case hg => rfl); (case hr => first | (go_simp; done) | (go_simp; rfl)); intro gb364 hg w7 hbox hb; have n0_ := Aside0.mk (below_step bel hb); have n1_ := Aside0.mk (hbox); have n2_ := Aside0.mk ((by rw [hg]; exact (below_size bel) : w.heap.size ≤ gb364)); have n3_ := n2_; clear HB; have HB := n0_; have BK364 := n1_; have GW364 := n2_; have GE364 := n3_; clear n0_ n1_ n2_ n3_; clear hb hbox hg; have hcz8_0 := blkc BK364.out 0 (.int .i64 a0_0) rfl; have hcz8_1 := blkc BK364.out 1 (.slice A0_1 l0_1.length c0_1) rfl; have hcz8_2 := blkc BK364.out 2 (.slice A0_2 l0_2.length c0_2) rfl; have hfz8_0 := blk_frozen BK364.out 0; have hfz8_1 := blk_frozen BK364.out 1; have hfz8_2 := blk_frozen BK364.out 2) | ((with_reducible refine gate_callee (f := 25) rfl ?_); refine goesL_ (some 16) rfl rfl Tryd.func25 (by kernel_rfl) rfl #[.agg #[.int .i64 a0_0, .slice A0_1 l0_1.length c0_1, .slice A0_2 l0_2.length c0_2], .int .i64 a1, .int .i64 a2] rfl mapz ?_; (with_reducible refine (dropperref05_Why.calls k a0_0 _ _ l0_1 _ _ l0_2 a1 a2 t365 _ ?side1 ?side2 ?side3 ?side4 A5.out).mono ?_); (case side1 => exact cbz HR0_1); (case side2 => exact HC0_1.out); (case side3 => exact cbz HR0_2); (case side4 => exact HC0_2.out); rintro e w9 ⟨rfl, hb⟩; refine ⟨_, rfl, ?_⟩; have n0_ := Aside0.mk (blk_below (g := gb364) blkz hb); have n1_ := Aside0.mk (below_step bel hb); clear BK364; clear HB; have BK364 := n0_; have HB := n1_; clear n0_ n1_; (try clear hb); (try clear hb2); (try clear hk); (try clear hi)))
  go_loopg [11] k (fun kq v11 w' => ∃ (x11_1 : Int), v11 = .int .i64 x11_1 ∧ Aside0 (dropperref05_Isolates.l0 kq a1 a2 l3 x11_1 a0_0 l0_1 l0_2 = some (r1, r2)) ∧ Aside0 (kq ≤ k) ∧ Aside0 (w'.heap[gb364]? = some (.cells #[.int .i64 a0_0, (.slice A0_1 l0_1.length c0_1), (.slice A0_2 l0_2.length c0_2)] 25 (0, 0))) ∧ Aside0 (Below w.heap.size w w'))
  case atStart => exact ⟨(0), rsz, H', ⟨Nat.le_refl _⟩, ⟨by (with_reducible repeat (first | refine blk_drewN ?_ _ | refine blk_drew ?_ | refine blk_alloc ?_ _)); exact BK364.out⟩, ⟨by repeat (first | (with_reducible first | exact HB.out | apply below_alloc | apply pw_below_drewN | apply below_drew1 | refine below_set ?_ GE364.out) | exact HB.out)⟩⟩
  case round =>
   clear H'
   try clear c2
   try clear p2
   try clear c3
   try clear c6
   try clear c6b0
   try clear c6b1
   try clear hcz8_0
   try clear hcz8_1
   try clear hcz8_2
   try clear hfz8_0
   try clear hfz8_1
   try clear hfz8_2
   obtain ⟨x11_1, rfl, HA, HK1, BK364, HB⟩ := hrel
   cases gk with
   | zero => exact absurd HA.out (by simp [dropperref05_Isolates.l0])
   | succ k1 =>
    have H := HA.out
    clear HA
    simp only [dropperref05_Isolates.l0] at H
    by_cases c10 : x11_1 < (l3.length : Int)
    ·
     rw [if_pos c10] at H
     have c10b0 : decide (x11_1 < (l3.length : Int)) = true := decide_eq_true c10
     clear c10
     by_cases c11 : 0 ≤ x11_1
     ·
      rw [if_pos c11] at H
      have c11b0 : decide (0 ≤ x11_1) = true := decide_eq_true c11
      clear c11
      by_cases c12 : (rd l3 x11_1) < 0
      ·
       rw [if_pos c12] at H
       have c12b0 : decide ((rd l3 x11_1) < 0) = true := decide_eq_true c12
       clear c12
       simp only [Option.some.injEq, Prod.mk.injEq] at H
       obtain ⟨rfl, rfl⟩ := H
       try go_wp2
       have n0_ := Aside0.mk (blk_drew BK364.out)
       have n1_ := Aside0.mk (below_drew1 HB.out)
       clear BK364
       clear HB
       have BK364 := n0_
       have HB := n1_
       clear n0_ n1_
       have p366 : 0 ≤ (x11_1 : Int) := of_decide_eq_true asz
       have q366 : x11_1 < (l3.length : Int) := of_decide_eq_true asz
       obtain ⟨ad366, e366, hx366_0⟩ := Kd.at_int HR3.out x11_1 p366 q366
       have hw366_0 := hx366_0
       cases e366
       replace hx366_0 := (HB.out.cell (World.block_lt_of_cell? w _ hx366_0)).trans hx366_0
       replace p366 := eq_true p366
       replace q366 := eq_true q366
       refine start_ (n := 40) (S := fun w' => w'.cell? (ad366.add (x11_1).toNat) = some (.int .i64 (rd l3 x11_1))) (ds := []) #[false, false, false, false, false, false, false, false, false, false, false, false, false, false, false, false, false, false, false, false, false, false, false, false, false, false, false, false, false, false, false, false, false, false, false, false, false, false, false, false] (by kernel_rfl) rfl rfl (((HB.out.cell (World.block_lt_of_cell? w _ hw366_0)).trans hw366_0)) (fun hHeld => ?_); refine with_tabW dropperref05_Isolates.tab7 dropperref05_Isolates.bits7 (fun HT_ HW_ => ?_)
       generalize wr.drew = w13 at BK364 HB hx366_0 hHeld ⊢
       refine pst (i := 0) (N := some 26) (bz 40 1) (any_of HT_.out (by kernel_rfl)) ?_
       refine pst (i := 1) (N := some 27) (bz 40 3) (any_of HT_.out (by kernel_rfl)) ?_
       refine pst (i := 2) (N := some 28) (bz 40 7) (any_of HT_.out (by kernel_rfl)) ?_
       refine tst1 (i := 3) (N := some 29) (bz 40 15) (take_ofW HT_.out HW_.out (by kernel_rfl)) hHeld ?_
       refine pst (i := 4) (N := some 30) (bz 40 31) (any_of HT_.out (by kernel_rfl)) ?_
       refine pst (i := 5) (N := some 31) (bz 40 63) (any_of HT_.out (by kernel_rfl)) ?_
       refine pso (i := 6) (N := some 32) (bz 40 127) (any_of HT_.out (by kernel_rfl)) ?_
       refine pso (i := 7) (N := some 33) (bz 40 255) (any_of HT_.out (by kernel_rfl)) ?_
       refine pso (i := 8) (N := some 34) (bz 40 511) (any_of HT_.out (by kernel_rfl)) ?_
       refine pso (i := 9) (N := some 35) (bz 40 1023) (any_of HT_.out (by kernel_rfl)) ?_
       refine pso (i := 10) (N := some 36) (bz 40 2047) (any_of HT_.out (by kernel_rfl)) ?_
       refine pso (i := 11) (N := some 37) (bz 40 4095) (any_of HT_.out (by kernel_rfl)) ?_
       refine pso (i := 12) (N := some 38) (bz 40 8191) (any_of HT_.out (by kernel_rfl)) ?_
       refine pso (i := 13) (N := some 39) (bz 40 16383) (any_of HT_.out (by kernel_rfl)) ?_
       refine pst (i := 14) (N := some 40) (bz 40 32767) (any_of HT_.out (by kernel_rfl)) ?_
       refine pst (i := 15) (N := some 41) (bz 40 65535) (any_of HT_.out (by kernel_rfl)) ?_
       refine pso (i := 16) (N := some 42) (bz 40 131071) (any_of HT_.out (by kernel_rfl)) ?_
       refine pso (i := 17) (N := some 43) (bz 40 262143) (any_of HT_.out (by kernel_rfl)) ?_
       refine pso (i := 18) (N := some 44) (bz 40 524287) (any_of HT_.out (by kernel_rfl)) ?_
       refine pso (i := 19) (N := some 45) (bz 40 1048575) (any_of HT_.out (by kernel_rfl)) ?_
       refine pso (i := 20) (N := some 46) (bz 40 2097151) (any_of HT_.out (by kernel_rfl)) ?_
       refine pso (i := 21) (N := some 47) (bz 40 4194303) (any_of HT_.out (by kernel_rfl)) ?_
       refine pso (i := 22) (N := some 48) (bz 40 8388607) (any_of HT_.out (by kernel_rfl)) ?_
       refine pst (i := 23) (N := some 49) (bz 40 16777215) (any_of HT_.out (by kernel_rfl)) ?_
       refine pst (i := 24) (N := some 50) (bz 40 33554431) (any_of HT_.out (by kernel_rfl)) ?_
       refine pso (i := 25) (N := some 51) (bz 40 67108863) (any_of HT_.out (by kernel_rfl)) ?_
       refine pso (i := 26) (N := some 52) (bz 40 134217727) (any_of HT_.out (by kernel_rfl)) ?_
       refine pso (i := 27) (N := some 53) (bz 40 268435455) (any_of HT_.out (by kernel_rfl)) ?_
       refine pso (i := 28) (N := some 54) (bz 40 536870911) (any_of HT_.out (by kernel_rfl)) ?_
       refine pso (i := 29) (N := some 55) (bz 40 1073741823) (any_of HT_.out (by kernel_rfl)) ?_
       refine pso (i := 30) (N := some 56) (bz 40 2147483647) (any_of HT_.out (by kernel_rfl)) ?_
       refine pso (i := 31) (N := some 57) (bz 40 4294967295) (any_of HT_.out (by kernel_rfl)) ?_
       refine pso (i := 32) (N := some 58) (bz 40 8589934591) (any_of HT_.out (by kernel_rfl)) ?_
       refine pso (i := 33) (N := some 59) (bz 40 17179869183) (any_of HT_.out (by kernel_rfl)) ?_
       refine pso (i := 34) (N := some 60) (bz 40 34359738367) (any_of HT_.out (by kernel_rfl)) ?_
       refine pso (i := 35) (N := some 61) (bz 40 68719476735) (any_of HT_.out (by kernel_rfl)) ?_
       refine pso (i := 36) (N := some 62) (bz 40 137438953471) (any_of HT_.out (by kernel_rfl)) ?_
       refine pso (i := 37) (N := some 63) (bz 40 274877906943) (any_of HT_.out (by kernel_rfl)) ?_
       refine pso (i := 38) (N := some 64) (bz 40 549755813887) (any_of HT_.out (by kernel_rfl)) ?_
       refine pst (i := 39) (N := some 65) (bz 40 1099511627775) (any_of HT_.out (by kernel_rfl)) ?_
       refine done_ (done_of HT_.out (by kernel_rfl)) ?_
       try go_wp2
       go_ret2
       exact ⟨by first | rfl | (simp [errW_none, errW_some] <;> rfl) | (simp [*, errW_none, errW_some] <;> rfl), by repeat (first | (with_reducible first | exact HB.out | apply below_alloc | apply pw_below_drewN | apply below_drew1 | refine below_set ?_ GE364.out) | exact HB.out)⟩
      ·
       rw [if_neg c12] at H
       have c12b0 : decide ((rd l3 x11_1) < 0) = false := decide_eq_false c12
       clear c12
       by_cases c14 : (rd l3 x11_1) ≥ (l0_1.length : Int)
       ·
        rw [if_pos c14] at H
        have c14b0 : decide ((l0_1.length : Int) ≤ (rd l3 x11_1)) = true := decide_eq_true c14
        clear c14
        simp only [Option.some.injEq, Prod.mk.injEq] at H
        obtain ⟨rfl, rfl⟩ := H
        try go_wp2
        have n0_ := Aside0.mk (blk_drew BK364.out)
        have n1_ := Aside0.mk (below_drew1 HB.out)
        clear BK364
        clear HB
        have BK364 := n0_
        have HB := n1_
        clear n0_ n1_
        have p366 : 0 ≤ (x11_1 : Int) := of_decide_eq_true asz
        have q366 : x11_1 < (l3.length : Int) := of_decide_eq_true asz
        obtain ⟨ad366, e366, hx366_0⟩ := Kd.at_int HR3.out x11_1 p366 q366
        have hw366_0 := hx366_0
        cases e366
        replace hx366_0 := (HB.out.cell (World.block_lt_of_cell? w _ hx366_0)).trans hx366_0
        replace p366 := eq_true p366
        replace q366 := eq_true q366
        have p367 : 0 ≤ (x11_1 : Int) := of_decide_eq_true asz
        have q367 : x11_1 < (l3.length : Int) := of_decide_eq_true asz
        obtain ⟨ad367, e367, hx367_0⟩ := Kd.at_int HR3.out x11_1 p367 q367
        have hw367_0 := hx367_0
        obtain rfl : ad366 = ad367 := (by injection e367)
        replace hx367_0 := (HB.out.cell (World.block_lt_of_cell? w _ hx367_0)).trans hx367_0
        replace p367 := eq_true p367
        replace q367 := eq_true q367
        refine start_ (n := 40) (S := fun w' => w'.cell? ⟨gb364, 0, none⟩ = some (.int .i64 a0_0) ∧ w'.cell? ⟨gb364, 1, none⟩ = some (.slice A0_1 l0_1.length c0_1) ∧ w'.cell? ⟨gb364, 2, none⟩ = some (.slice A0_2 l0_2.length c0_2) ∧ w'.cell? (ad366.add (x11_1).toNat) = some (.int .i64 (rd l3 x11_1)) ∧ w'.cell? (ad366.add (x11_1).toNat) = some (.int .i64 (rd l3 x11_1))) (ds := []) #[false, false, false, false, false, false, false, false, false, false, false, false, false, false, false, false, false, false, false, false, false, false, false, false, false, false, false, false, false, false, false, false, false, false, false, false, false, false, false, false] (by kernel_rfl) rfl rfl ⟨(blk_cell BK364.out 0).trans rfl, (blk_cell BK364.out 1).trans rfl, (blk_cell BK364.out 2).trans rfl, ((HB.out.cell (World.block_lt_of_cell? w _ hw366_0)).trans hw366_0), ((HB.out.cell (World.block_lt_of_cell? w _ hw367_0)).trans hw367_0)⟩ (fun hHeld => ?_); refine with_tabW dropperref05_Isolates.tab7 dropperref05_Isolates.bits7 (fun HT_ HW_ => ?_)
        generalize wr.drew = w15 at BK364 HB hx366_0 hx367_0 hHeld ⊢
        refine pst (i := 0) (N := some 26) (bz 40 1) (any_of HT_.out (by kernel_rfl)) ?_
        refine pst (i := 1) (N := some 27) (bz 40 3) (any_of HT_.out (by kernel_rfl)) ?_
        refine pst (i := 2) (N := some 28) (bz 40 7) (any_of HT_.out (by kernel_rfl)) ?_
        refine tst5 (i := 3) (N := some 29) (bz 40 15) (take_ofW HT_.out HW_.out (by kernel_rfl)) hHeld ?_
        refine pst (i := 4) (N := some 30) (bz 40 31) (any_of HT_.out (by kernel_rfl)) ?_
        refine pst (i := 5) (N := some 31) (bz 40 63) (any_of HT_.out (by kernel_rfl)) ?_
        refine pst (i := 6) (N := some 32) (bz 40 127) (any_of HT_.out (by kernel_rfl)) ?_
        refine pst (i := 7) (N := some 33) (bz 40 255) (any_of HT_.out (by kernel_rfl)) ?_
        refine pst (i := 8) (N := some 34) (bz 40 511) (any_of HT_.out (by kernel_rfl)) ?_
        refine pst (i := 10) (N := some 36) (bz 40 1535) (any_of HT_.out (by kernel_rfl)) ?_
        refine tst5 (i := 9) (N := some 35) (bz 40 2047) (take_ofW HT_.out HW_.out (by kernel_rfl)) hHeld ?_
        refine tst5 (i := 11) (N := some 37) (bz 40 4095) (take_ofW HT_.out HW_.out (by kernel_rfl)) hHeld ?_
        refine pst (i := 12) (N := some 38) (bz 40 8191) (any_of HT_.out (by kernel_rfl)) ?_
        refine pst (i := 13) (N := some 39) (bz 40 16383) (any_of HT_.out (by kernel_rfl)) ?_
        refine pst (i := 14) (N := some 40) (bz 40 32767) (any_of HT_.out (by kernel_rfl)) ?_
        refine pst (i := 15) (N := some 41) (bz 40 65535) (any_of HT_.out (by kernel_rfl)) ?_
        refine pso (i := 16) (N := some 42) (bz 40 131071) (any_of HT_.out (by kernel_rfl)) ?_
        refine pso (i := 17) (N := some 43) (bz 40 262143) (any_of HT_.out (by kernel_rfl)) ?_
        refine pso (i := 18) (N := some 44) (bz 40 524287) (any_of HT_.out (by kernel_rfl)) ?_
        refine pso (i := 19) (N := some 45) (bz 40 1048575) (any_of HT_.out (by kernel_rfl)) ?_
        refine pso (i := 20) (N := some 46) (bz 40 2097151) (any_of HT_.out (by kernel_rfl)) ?_
        refine pso (i := 21) (N := some 47) (bz 40 4194303) (any_of HT_.out (by kernel_rfl)) ?_
        refine pso (i := 22) (N := some 48) (bz 40 8388607) (any_of HT_.out (by kernel_rfl)) ?_
        refine pst (i := 23) (N := some 49) (bz 40 16777215) (any_of HT_.out (by kernel_rfl)) ?_
        refine pst (i := 24) (N := some 50) (bz 40 33554431) (any_of HT_.out (by kernel_rfl)) ?_
        refine pso (i := 25) (N := some 51) (bz 40 67108863) (any_of HT_.out (by kernel_rfl)) ?_
        refine pso (i := 26) (N := some 52) (bz 40 134217727) (any_of HT_.out (by kernel_rfl)) ?_
        refine pso (i := 27) (N := some 53) (bz 40 268435455) (any_of HT_.out (by kernel_rfl)) ?_
        refine pso (i := 28) (N := some 54) (bz 40 536870911) (any_of HT_.out (by kernel_rfl)) ?_
        refine pso (i := 29) (N := some 55) (bz 40 1073741823) (any_of HT_.out (by kernel_rfl)) ?_
        refine pso (i := 30) (N := some 56) (bz 40 2147483647) (any_of HT_.out (by kernel_rfl)) ?_
        refine pso (i := 31) (N := some 57) (bz 40 4294967295) (any_of HT_.out (by kernel_rfl)) ?_
        refine pso (i := 32) (N := some 58) (bz 40 8589934591) (any_of HT_.out (by kernel_rfl)) ?_
        refine pso (i := 33) (N := some 59) (bz 40 17179869183) (any_of HT_.out (by kernel_rfl)) ?_
        refine pso (i := 34) (N := some 60) (bz 40 34359738367) (any_of HT_.out (by kernel_rfl)) ?_
        refine pso (i := 35) (N := some 61) (bz 40 68719476735) (any_of HT_.out (by kernel_rfl)) ?_
        refine pso (i := 36) (N := some 62) (bz 40 137438953471) (any_of HT_.out (by kernel_rfl)) ?_
        refine pso (i := 37) (N := some 63) (bz 40 274877906943) (any_of HT_.out (by kernel_rfl)) ?_
        refine pso (i := 38) (N := some 64) (bz 40 549755813887) (any_of HT_.out (by kernel_rfl)) ?_
        refine pst (i := 39) (N := some 65) (bz 40 1099511627775) (any_of HT_.out (by kernel_rfl)) ?_
        refine done_ (done_of HT_.out (by kernel_rfl)) ?_
        try go_wp2
        go_ret2
        exact ⟨by first | rfl | (simp [errW_none, errW_some] <;> rfl) | (simp [*, errW_none, errW_some] <;> rfl), by repeat (first | (with_reducible first | exact HB.out | apply below_alloc | apply pw_below_drewN | apply below_drew1 | refine below_set ?_ GE364.out) | exact HB.out)⟩
       ·
        rw [if_neg c14] at H
        have c14b0 : decide ((l0_1.length : Int) ≤ (rd l3 x11_1)) = false := decide_eq_false c14
        clear c14
        replace H := Option.bind_eq_some_iff.mp H
        obtain ⟨t369, A160, H⟩ := H
        replace H : (if t369 = true then (if x11_1 > 0 then (if 0 ≤ (wrap64 (x11_1 - 1)) then (if (wrap64 (x11_1 - 1)) < (l3.length : Int) then (if (rd l3 x11_1) ≤ (rd l3 (wrap64 (x11_1 - 1))) then (some (false, 0)) else (dropperref05_Isolates.l0 k1 a1 a2 l3 (wrap64 (x11_1 + 1)) a0_0 l0_1 l0_2)) else (none)) else (none)) else (dropperref05_Isolates.l0 k1 a1 a2 l3 (wrap64 (x11_1 + 1)) a0_0 l0_1 l0_2)) else (some (false, 0))) = some (r1, r2) := H
        have A16 := Aside0.mk A160
        clear A160
        by_cases c17 : t369 = true
        ·
         subst c17
         have H1 : (if x11_1 > 0 then (if 0 ≤ (wrap64 (x11_1 - 1)) then (if (wrap64 (x11_1 - 1)) < (l3.length : Int) then (if (rd l3 x11_1) ≤ (rd l3 (wrap64 (x11_1 - 1))) then (some (false, 0)) else (dropperref05_Isolates.l0 k1 a1 a2 l3 (wrap64 (x11_1 + 1)) a0_0 l0_1 l0_2)) else (none)) else (none)) else (dropperref05_Isolates.l0 k1 a1 a2 l3 (wrap64 (x11_1 + 1)) a0_0 l0_1 l0_2)) = some (r1, r2) := by rw [if_pos rfl] at H; exact H
         clear H
         have H := H1
         clear H1
         by_cases c18 : x11_1 > 0
         ·
          rw [if_pos c18] at H
          have c18b0 : decide (0 < x11_1) = true := decide_eq_true c18
          clear c18
          obtain ⟨ji19, hji19⟩ : ∃ j_ : Int, (wrap64 (x11_1 - 1)) = j_ := ⟨_, rfl⟩
          replace H : (if 0 ≤ (ji19) then (if (ji19) < (l3.length : Int) then (if (rd l3 x11_1) ≤ (rd l3 (ji19)) then (some (false, 0)) else (dropperref05_Isolates.l0 k1 a1 a2 l3 (wrap64 (x11_1 + 1)) a0_0 l0_1 l0_2)) else (none)) else (none)) = some (r1, r2) := by first | (rw [hji19] at H; exact H) | (simp only [hji19] at H ⊢; exact H)
          (try rw [hji19] at A16)
          have hji19w : (IntKind.i64.wrap (x11_1 - 1)) = ji19 := (i64_w _).trans hji19
          by_cases c20 : 0 ≤ (ji19)
          ·
           rw [if_pos c20] at H
           have c20b0 : decide (0 ≤ (ji19)) = true := decide_eq_true c20
           clear c20
           by_cases c21 : (ji19) < (l3.length : Int)
           ·
            rw [if_pos c21] at H
            have c21b0 : decide ((ji19) < (l3.length : Int)) = true := decide_eq_true c21
            clear c21
            by_cases c22 : (rd l3 x11_1) ≤ (rd l3 (ji19))
            ·
             rw [if_pos c22] at H
             have c22b0 : decide ((rd l3 x11_1) ≤ (rd l3 (ji19))) = true := decide_eq_true c22
             clear c22
             simp only [Option.some.injEq, Prod.mk.injEq] at H
             obtain ⟨rfl, rfl⟩ := H
             try go_wp2
             have n0_ := Aside0.mk (blk_drew BK364.out)
             have n1_ := Aside0.mk (below_drew1 HB.out)
             clear BK364
             clear HB
             have BK364 := n0_
             have HB := n1_
             clear n0_ n1_
             have p366 : 0 ≤ (x11_1 : Int) := of_decide_eq_true asz
             have q366 : x11_1 < (l3.length : Int) := of_decide_eq_true asz
             obtain ⟨ad366, e366, hx366_0⟩ := Kd.at_int HR3.out x11_1 p366 q366
             have hw366_0 := hx366_0
             cases e366
             replace hx366_0 := (HB.out.cell (World.block_lt_of_cell? w _ hx366_0)).trans hx366_0
             replace p366 := eq_true p366
             replace q366 := eq_true q366
             have p367 : 0 ≤ (x11_1 : Int) := of_decide_eq_true asz
             have q367 : x11_1 < (l3.length : Int) := of_decide_eq_true asz
             obtain ⟨ad367, e367, hx367_0⟩ := Kd.at_int HR3.out x11_1 p367 q367
             have hw367_0 := hx367_0
             obtain rfl : ad366 = ad367 := (by injection e367)
             replace hx367_0 := (HB.out.cell (World.block_lt_of_cell? w _ hx367_0)).trans hx367_0
             replace p367 := eq_true p367
             replace q367 := eq_true q367
             have p368 : 0 ≤ (x11_1 : Int) := of_decide_eq_true asz
             have q368 : x11_1 < (l3.length : Int) := of_decide_eq_true asz
             obtain ⟨ad368, e368, hx368_0⟩ := Kd.at_int HR3.out x11_1 p368 q368
             have hw368_0 := hx368_0
             obtain rfl : ad366 = ad368 := (by injection e368)
             replace hx368_0 := (HB.out.cell (World.block_lt_of_cell? w _ hx368_0)).trans hx368_0
             replace p368 := eq_true p368
             replace q368 := eq_true q368
             have p370 : 0 ≤ (x11_1 : Int) := of_decide_eq_true asz
             have q370 : x11_1 < (l3.length : Int) := of_decide_eq_true asz
             obtain ⟨ad370, e370, hx370_0⟩ := Kd.at_int HR3.out x11_1 p370 q370
             have hw370_0 := hx370_0
             obtain rfl : ad366 = ad370 := (by injection e370)
             replace hx370_0 := (HB.out.cell (World.block_lt_of_cell? w _ hx370_0)).trans hx370_0
             replace p370 := eq_true p370
             replace q370 := eq_true q370
             have p371 : 0 ≤ ((ji19) : Int) := of_decide_eq_true asz
             have q371 : (ji19) < (l3.length : Int) := of_decide_eq_true asz
             obtain ⟨ad371, e371, hx371_0⟩ := Kd.at_int HR3.out (ji19) p371 q371
             have hw371_0 := hx371_0
             obtain rfl : ad366 = ad371 := (by injection e371)
             replace hx371_0 := (HB.out.cell (World.block_lt_of_cell? w _ hx371_0)).trans hx371_0
             replace p371 := eq_true p371
             replace q371 := eq_true q371
             refine start_ (n := 40) (S := fun w' => w'.cell? ⟨gb364, 0, none⟩ = some (.int .i64 a0_0) ∧ w'.cell? ⟨gb364, 1, none⟩ = some (.slice A0_1 l0_1.length c0_1) ∧ w'.cell? ⟨gb364, 2, none⟩ = some (.slice A0_2 l0_2.length c0_2) ∧ w'.cell? (ad366.add (x11_1).toNat) = some (.int .i64 (rd l3 x11_1)) ∧ w'.cell? (ad366.add (x11_1).toNat) = some (.int .i64 (rd l3 x11_1)) ∧ w'.cell? (ad366.add (x11_1).toNat) = some (.int .i64 (rd l3 x11_1)) ∧ w'.cell? (ad366.add (x11_1).toNat) = some (.int .i64 (rd l3 x11_1)) ∧ w'.cell? (ad366.add ((ji19)).toNat) = some (.int .i64 (rd l3 (ji19)))) (ds := []) #[false, false, false, false, false, false, false, false, false, false, false, false, false, false, false, false, false, false, false, false, false, false, false, false, false, false, false, false, false, false, false, false, false, false, false, false, false, false, false, false] (by kernel_rfl) rfl rfl ⟨(blk_cell BK364.out 0).trans rfl, (blk_cell BK364.out 1).trans rfl, (blk_cell BK364.out 2).trans rfl, ((HB.out.cell (World.block_lt_of_cell? w _ hw366_0)).trans hw366_0), ((HB.out.cell (World.block_lt_of_cell? w _ hw367_0)).trans hw367_0), ((HB.out.cell (World.block_lt_of_cell? w _ hw368_0)).trans hw368_0), ((HB.out.cell (World.block_lt_of_cell? w _ hw370_0)).trans hw370_0), ((HB.out.cell (World.block_lt_of_cell? w _ hw371_0)).trans hw371_0)⟩ (fun hHeld => ?_); refine with_tabW dropperref05_Isolates.tab7 dropperref05_Isolates.bits7 (fun HT_ HW_ => ?_)
             generalize wr.drew = w23 at BK364 HB hx366_0 hx367_0 hx368_0 hx370_0 hx371_0 hHeld ⊢
             refine pst (i := 0) (N := some 26) (bz 40 1) (any_of HT_.out (by kernel_rfl)) ?_
             refine pst (i := 1) (N := some 27) (bz 40 3) (any_of HT_.out (by kernel_rfl)) ?_
             refine pst (i := 2) (N := some 28) (bz 40 7) (any_of HT_.out (by kernel_rfl)) ?_
             refine tst8 (i := 3) (N := some 29) (bz 40 15) (take_ofW HT_.out HW_.out (by kernel_rfl)) hHeld ?_
             refine pst (i := 4) (N := some 30) (bz 40 31) (any_of HT_.out (by kernel_rfl)) ?_
             refine pst (i := 5) (N := some 31) (bz 40 63) (any_of HT_.out (by kernel_rfl)) ?_
             refine pst (i := 6) (N := some 32) (bz 40 127) (any_of HT_.out (by kernel_rfl)) ?_
             refine pst (i := 7) (N := some 33) (bz 40 255) (any_of HT_.out (by kernel_rfl)) ?_
             refine pst (i := 8) (N := some 34) (bz 40 511) (any_of HT_.out (by kernel_rfl)) ?_
             refine pst (i := 10) (N := some 36) (bz 40 1535) (any_of HT_.out (by kernel_rfl)) ?_
             refine tst8 (i := 9) (N := some 35) (bz 40 2047) (take_ofW HT_.out HW_.out (by kernel_rfl)) hHeld ?_
             refine tst8 (i := 11) (N := some 37) (bz 40 4095) (take_ofW HT_.out HW_.out (by kernel_rfl)) hHeld ?_
             refine pst (i := 12) (N := some 38) (bz 40 8191) (any_of HT_.out (by kernel_rfl)) ?_
             refine pst (i := 13) (N := some 39) (bz 40 16383) (any_of HT_.out (by kernel_rfl)) ?_
             refine pst (i := 14) (N := some 40) (bz 40 32767) (any_of HT_.out (by kernel_rfl)) ?_
             refine pst (i := 15) (N := some 41) (bz 40 65535) (any_of HT_.out (by kernel_rfl)) ?_
             refine pst (i := 16) (N := some 42) (bz 40 131071) (any_of HT_.out (by kernel_rfl)) ?_
             refine pst (i := 17) (N := some 43) (bz 40 262143) (any_of HT_.out (by kernel_rfl)) ?_
             refine pst (i := 18) (N := some 44) (bz 40 524287) (any_of HT_.out (by kernel_rfl)) ?_
             refine pst (i := 19) (N := some 45) (bz 40 1048575) (any_of HT_.out (by kernel_rfl)) ?_
             refine tst8 (i := 20) (N := some 46) (bz 40 2097151) (take_ofW HT_.out HW_.out (by kernel_rfl)) hHeld ?_
             refine one_ (i := 21) (N := some 47) #[true, true, true, true, true, true, true, true, true, true, true, true, true, true, true, true, true, true, true, true, true, true, false, false, false, false, false, false, false, false, false, false, false, false, false, false, false, false, false, false] rfl rfl (one_of HT_.out (by kernel_rfl)) (by decide) (fun K hK => ?_)
             refine goes_ Tryd.func61 (by kernel_rfl) rfl #[.int .i64 a1, .int .i64 (rd l3 x11_1)] (by rfl) rfl rfl mapz ?_
             with_reducible refine (dropperref05_closed.calls a1 (rd l3 x11_1) true _ A16.out).mono ?_
             rintro e w' ⟨rfl, ⟨nd, rfl⟩⟩
             refine ⟨_, rfl, ?_⟩
             refine hK.out _ _ ⟨(blk_cell BK364.out 0).trans rfl, (blk_cell BK364.out 1).trans rfl, (blk_cell BK364.out 2).trans rfl, ((HB.out.cell (World.block_lt_of_cell? w _ hw366_0)).trans hw366_0), ((HB.out.cell (World.block_lt_of_cell? w _ hw367_0)).trans hw367_0), ((HB.out.cell (World.block_lt_of_cell? w _ hw368_0)).trans hw368_0), ((HB.out.cell (World.block_lt_of_cell? w _ hw370_0)).trans hw370_0), ((HB.out.cell (World.block_lt_of_cell? w _ hw371_0)).trans hw371_0)⟩ (fun hHeld => ?_)
             clear hK K
             refine norm_ (a' := ?_) ?_ ?_
             rotate_left
             ·
              show Act.put _ (some 47) _ = _
              simp only [Act.put, List.setIfInBounds_toArray, List.set_cons_zero, List.set_cons_succ, i64_w, i32_w]
              rfl
             refine pst (i := 22) (N := some 48) (bz 40 8388607) (any_of HT_.out (by kernel_rfl)) ?_
             refine pst (i := 23) (N := some 49) (bz 40 16777215) (any_of HT_.out (by kernel_rfl)) ?_
             refine pst (i := 24) (N := some 50) (bz 40 33554431) (any_of HT_.out (by kernel_rfl)) ?_
             refine pst (i := 25) (N := some 51) (bz 40 67108863) (any_of HT_.out (by kernel_rfl)) ?_
             refine pst (i := 26) (N := some 52) (bz 40 134217727) (any_of HT_.out (by kernel_rfl)) ?_
             refine pst (i := 27) (N := some 53) (bz 40 268435455) (any_of HT_.out (by kernel_rfl)) ?_
             refine pst (i := 28) (N := some 54) (bz 40 536870911) (any_of HT_.out (by kernel_rfl)) ?_
             refine pst (i := 29) (N := some 55) (bz 40 1073741823) (any_of HT_.out (by kernel_rfl)) ?_
             refine pst (i := 30) (N := some 56) (bz 40 2147483647) (any_of HT_.out (by kernel_rfl)) ?_
             refine pst (i := 32) (N := some 58) (bz 40 6442450943) (any_of HT_.out (by kernel_rfl)) ?_
             refine pst (i := 33) (N := some 59) (bz 40 15032385535) (any_of HT_.out (by kernel_rfl)) ?_
             refine pst (i := 34) (N := some 60) (bz 40 32212254719) (any_of HT_.out (by kernel_rfl)) ?_
             refine pst (i := 35) (N := some 61) (bz 40 66571993087) (any_of HT_.out (by kernel_rfl)) ?_
             refine tst8 (i := 31) (N := some 57) (bz 40 68719476735) (take_ofW HT_.out HW_.out (by kernel_rfl)) hHeld ?_
             refine tst8 (i := 36) (N := some 62) (bz 40 137438953471) (take_ofW HT_.out HW_.out (by kernel_rfl)) hHeld ?_
             refine pst (i := 37) (N := some 63) (bz 40 274877906943) (any_of HT_.out (by kernel_rfl)) ?_
             refine pst (i := 38) (N := some 64) (bz 40 549755813887) (any_of HT_.out (by kernel_rfl)) ?_
             refine pst (i := 39) (N := some 65) (bz 40 1099511627775) (any_of HT_.out (by kernel_rfl)) ?_
             refine done_ (done_of HT_.out (by kernel_rfl)) ?_
             try go_wp2
             go_ret2
             exact ⟨by first | rfl | (simp [errW_none, errW_some] <;> rfl) | (simp only [← hji19]; first | rfl | (simp [errW_none, errW_some] <;> rfl)) | (simp [*, errW_none, errW_some] <;> rfl), by repeat (first | (with_reducible first | exact HB.out | apply below_alloc | apply pw_below_drewN | apply below_drew1 | refine below_set ?_ GE364.out) | exact HB.out)⟩
            ·
             rw [if_neg c22] at H
             have c22b0 : decide ((rd l3 x11_1) ≤ (rd l3 (ji19))) = false := decide_eq_false c22
             clear c22
             have H' := Aside0.mk H
             clear H
             try go_wp2
             have n0_ := Aside0.mk (blk_drew BK364.out)
             have n1_ := Aside0.mk (below_drew1 HB.out)
             clear BK364
             clear HB
             have BK364 := n0_
             have HB := n1_
             clear n0_ n1_
             have p366 : 0 ≤ (x11_1 : Int) := of_decide_eq_true asz
             have q366 : x11_1 < (l3.length : Int) := of_decide_eq_true asz
             obtain ⟨ad366, e366, hx366_0⟩ := Kd.at_int HR3.out x11_1 p366 q366
             have hw366_0 := hx366_0
             cases e366
             replace hx366_0 := (HB.out.cell (World.block_lt_of_cell? w _ hx366_0)).trans hx366_0
             replace p366 := eq_true p366
             replace q366 := eq_true q366
             have p367 : 0 ≤ (x11_1 : Int) := of_decide_eq_true asz
             have q367 : x11_1 < (l3.length : Int) := of_decide_eq_true asz
             obtain ⟨ad367, e367, hx367_0⟩ := Kd.at_int HR3.out x11_1 p367 q367
             have hw367_0 := hx367_0
             obtain rfl : ad366 = ad367 := (by injection e367)
             replace hx367_0 := (HB.out.cell (World.block_lt_of_cell? w _ hx367_0)).trans hx367_0
             replace p367 := eq_true p367
             replace q367 := eq_true q367
             have p368 : 0 ≤ (x11_1 : Int) := of_decide_eq_true asz
             have q368 : x11_1 < (l3.length : Int) := of_decide_eq_true asz
             obtain ⟨ad368, e368, hx368_0⟩ := Kd.at_int HR3.out x11_1 p368 q368
             have hw368_0 := hx368_0
             obtain rfl : ad366 = ad368 := (by injection e368)
             replace hx368_0 := (HB.out.cell (World.block_lt_of_cell? w _ hx368_0)).trans hx368_0
             replace p368 := eq_true p368
             replace q368 := eq_true q368
             have p370 : 0 ≤ (x11_1 : Int) := of_decide_eq_true asz
             have q370 : x11_1 < (l3.length : Int) := of_decide_eq_true asz
             obtain ⟨ad370, e370, hx370_0⟩ := Kd.at_int HR3.out x11_1 p370 q370
             have hw370_0 := hx370_0
             obtain rfl : ad366 = ad370 := (by injection e370)
             replace hx370_0 := (HB.out.cell (World.block_lt_of_cell? w _ hx370_0)).trans hx370_0
             replace p370 := eq_true p370
             replace q370 := eq_true q370
             have p371 : 0 ≤ ((ji19) : Int) := of_decide_eq_true asz
             have q371 : (ji19) < (l3.length : Int) := of_decide_eq_true asz
             obtain ⟨ad371, e371, hx371_0⟩ := Kd.at_int HR3.out (ji19) p371 q371
             have hw371_0 := hx371_0
             obtain rfl : ad366 = ad371 := (by injection e371)
             replace hx371_0 := (HB.out.cell (World.block_lt_of_cell? w _ hx371_0)).trans hx371_0
             replace p371 := eq_true p371
             replace q371 := eq_true q371
             refine start_ (n := 40) (S := fun w' => w'.cell? ⟨gb364, 0, none⟩ = some (.int .i64 a0_0) ∧ w'.cell? ⟨gb364, 1, none⟩ = some (.slice A0_1 l0_1.length c0_1) ∧ w'.cell? ⟨gb364, 2, none⟩ = some (.slice A0_2 l0_2.length c0_2) ∧ w'.cell? (ad366.add (x11_1).toNat) = some (.int .i64 (rd l3 x11_1)) ∧ w'.cell? (ad366.add (x11_1).toNat) = some (.int .i64 (rd l3 x11_1)) ∧ w'.cell? (ad366.add (x11_1).toNat) = some (.int .i64 (rd l3 x11_1)) ∧ w'.cell? (ad366.add (x11_1).toNat) = some (.int .i64 (rd l3 x11_1)) ∧ w'.cell? (ad366.add ((ji19)).toNat) = some (.int .i64 (rd l3 (ji19)))) (ds := []) #[false, false, false, false, false, false, false, false, false, false, false, false, false, false, false, false, false, false, false, false, false, false, false, false, false, false, false, false, false, false, false, false, false, false, false, false, false, false, false, false] (by kernel_rfl) rfl rfl ⟨(blk_cell BK364.out 0).trans rfl, (blk_cell BK364.out 1).trans rfl, (blk_cell BK364.out 2).trans rfl, ((HB.out.cell (World.block_lt_of_cell? w _ hw366_0)).trans hw366_0), ((HB.out.cell (World.block_lt_of_cell? w _ hw367_0)).trans hw367_0), ((HB.out.cell (World.block_lt_of_cell? w _ hw368_0)).trans hw368_0), ((HB.out.cell (World.block_lt_of_cell? w _ hw370_0)).trans hw370_0), ((HB.out.cell (World.block_lt_of_cell? w _ hw371_0)).trans hw371_0)⟩ (fun hHeld => ?_); refine with_tabW dropperref05_Isolates.tab7 dropperref05_Isolates.bits7 (fun HT_ HW_ => ?_)
             generalize wr.drew = w24 at BK364 HB hx366_0 hx367_0 hx368_0 hx370_0 hx371_0 hHeld ⊢
             refine pst (i := 0) (N := some 26) (bz 40 1) (any_of HT_.out (by kernel_rfl)) ?_
             refine pst (i := 1) (N := some 27) (bz 40 3) (any_of HT_.out (by kernel_rfl)) ?_
             refine pst (i := 2) (N := some 28) (bz 40 7) (any_of HT_.out (by kernel_rfl)) ?_
             refine tst8 (i := 3) (N := some 29) (bz 40 15) (take_ofW HT_.out HW_.out (by kernel_rfl)) hHeld ?_
             refine pst (i := 4) (N := some 30) (bz 40 31) (any_of HT_.out (by kernel_rfl)) ?_
             refine pst (i := 5) (N := some 31) (bz 40 63) (any_of HT_.out (by kernel_rfl)) ?_
             refine pst (i := 6) (N := some 32) (bz 40 127) (any_of HT_.out (by kernel_rfl)) ?_
             refine pst (i := 7) (N := some 33) (bz 40 255) (any_of HT_.out (by kernel_rfl)) ?_
             refine pst (i := 8) (N := some 34) (bz 40 511) (any_of HT_.out (by kernel_rfl)) ?_
             refine pst (i := 10) (N := some 36) (bz 40 1535) (any_of HT_.out (by kernel_rfl)) ?_
             refine tst8 (i := 9) (N := some 35) (bz 40 2047) (take_ofW HT_.out HW_.out (by kernel_rfl)) hHeld ?_
             refine tst8 (i := 11) (N := some 37) (bz 40 4095) (take_ofW HT_.out HW_.out (by kernel_rfl)) hHeld ?_
             refine pst (i := 12) (N := some 38) (bz 40 8191) (any_of HT_.out (by kernel_rfl)) ?_
             refine pst (i := 13) (N := some 39) (bz 40 16383) (any_of HT_.out (by kernel_rfl)) ?_
             refine pst (i := 14) (N := some 40) (bz 40 32767) (any_of HT_.out (by kernel_rfl)) ?_
             refine pst (i := 15) (N := some 41) (bz 40 65535) (any_of HT_.out (by kernel_rfl)) ?_
             refine pst (i := 16) (N := some 42) (bz 40 131071) (any_of HT_.out (by kernel_rfl)) ?_
             refine pst (i := 17) (N := some 43) (bz 40 262143) (any_of HT_.out (by kernel_rfl)) ?_
             refine pst (i := 18) (N := some 44) (bz 40 524287) (any_of HT_.out (by kernel_rfl)) ?_
             refine pst (i := 19) (N := some 45) (bz 40 1048575) (any_of HT_.out (by kernel_rfl)) ?_
             refine tst8 (i := 20) (N := some 46) (bz 40 2097151) (take_ofW HT_.out HW_.out (by kernel_rfl)) hHeld ?_
             refine one_ (i := 21) (N := some 47) #[true, true, true, true, true, true, true, true, true, true, true, true, true, true, true, true, true, true, true, true, true, true, false, false, false, false, false, false, false, false, false, false, false, false, false, false, false, false, false, false] rfl rfl (one_of HT_.out (by kernel_rfl)) (by decide) (fun K hK => ?_)
             refine goes_ Tryd.func61 (by kernel_rfl) rfl #[.int .i64 a1, .int .i64 (rd l3 x11_1)] (by rfl) rfl rfl mapz ?_
             with_reducible refine (dropperref05_closed.calls a1 (rd l3 x11_1) true _ A16.out).mono ?_
             rintro e w' ⟨rfl, ⟨nd, rfl⟩⟩
             refine ⟨_, rfl, ?_⟩
             refine hK.out _ _ ⟨(blk_cell BK364.out 0).trans rfl, (blk_cell BK364.out 1).trans rfl, (blk_cell BK364.out 2).trans rfl, ((HB.out.cell (World.block_lt_of_cell? w _ hw366_0)).trans hw366_0), ((HB.out.cell (World.block_lt_of_cell? w _ hw367_0)).trans hw367_0), ((HB.out.cell (World.block_lt_of_cell? w _ hw368_0)).trans hw368_0), ((HB.out.cell (World.block_lt_of_cell? w _ hw370_0)).trans hw370_0), ((HB.out.cell (World.block_lt_of_cell? w _ hw371_0)).trans hw371_0)⟩ (fun hHeld => ?_)
             clear hK K
             refine norm_ (a' := ?_) ?_ ?_
             rotate_left
             ·
              show Act.put _ (some 47) _ = _
              simp only [Act.put, List.setIfInBounds_toArray, List.set_cons_zero, List.set_cons_succ, i64_w, i32_w]
              rfl
             refine pst (i := 22) (N := some 48) (bz 40 8388607) (any_of HT_.out (by kernel_rfl)) ?_
             refine pst (i := 23) (N := some 49) (bz 40 16777215) (any_of HT_.out (by kernel_rfl)) ?_
             refine pst (i := 24) (N := some 50) (bz 40 33554431) (any_of HT_.out (by kernel_rfl)) ?_
             refine pst (i := 25) (N := some 51) (bz 40 67108863) (any_of HT_.out (by kernel_rfl)) ?_
             refine pst (i := 26) (N := some 52) (bz 40 134217727) (any_of HT_.out (by kernel_rfl)) ?_
             refine pst (i := 27) (N := some 53) (bz 40 268435455) (any_of HT_.out (by kernel_rfl)) ?_
             refine pst (i := 28) (N := some 54) (bz 40 536870911) (any_of HT_.out (by kernel_rfl)) ?_
             refine pst (i := 29) (N := some 55) (bz 40 1073741823) (any_of HT_.out (by kernel_rfl)) ?_
             refine pst (i := 30) (N := some 56) (bz 40 2147483647) (any_of HT_.out (by kernel_rfl)) ?_
             refine pst (i := 32) (N := some 58) (bz 40 6442450943) (any_of HT_.out (by kernel_rfl)) ?_
             refine pst (i := 33) (N := some 59) (bz 40 15032385535) (any_of HT_.out (by kernel_rfl)) ?_
             refine pst (i := 34) (N := some 60) (bz 40 32212254719) (any_of HT_.out (by kernel_rfl)) ?_
             refine pst (i := 35) (N := some 61) (bz 40 66571993087) (any_of HT_.out (by kernel_rfl)) ?_
             refine tst8 (i := 31) (N := some 57) (bz 40 68719476735) (take_ofW HT_.out HW_.out (by kernel_rfl)) hHeld ?_
             refine tst8 (i := 36) (N := some 62) (bz 40 137438953471) (take_ofW HT_.out HW_.out (by kernel_rfl)) hHeld ?_
             refine pst (i := 37) (N := some 63) (bz 40 274877906943) (any_of HT_.out (by kernel_rfl)) ?_
             refine pst (i := 38) (N := some 64) (bz 40 549755813887) (any_of HT_.out (by kernel_rfl)) ?_
             refine pst (i := 39) (N := some 65) (bz 40 1099511627775) (any_of HT_.out (by kernel_rfl)) ?_
             refine done_ (done_of HT_.out (by kernel_rfl)) ?_
             try go_wp2
             go_roundg k1
             case measure => have := HK1.out; omega
             case rel => exact ⟨(wrap64 (x11_1 + 1)), rsz, H', ⟨by have := HK1.out; omega⟩, ⟨by (with_reducible repeat (first | refine blk_drewN ?_ _ | refine blk_drew ?_ | refine blk_alloc ?_ _)); exact BK364.out⟩, ⟨by repeat (first | (with_reducible first | exact HB.out | apply below_alloc | apply pw_below_drewN | apply below_drew1 | refine below_set ?_ GE364.out) | exact HB.out)⟩⟩
           ·
            rw [if_neg c21] at H
            exact absurd H (by simp)
          ·
           rw [if_neg c20] at H
           exact absurd H (by simp)
         ·
          rw [if_neg c18] at H
          have c18b0 : decide (0 < x11_1) = false := decide_eq_false c18
          clear c18
          have H' := Aside0.mk H
          clear H
          try go_wp2
          have n0_ := Aside0.mk (blk_drew BK364.out)
          have n1_ := Aside0.mk (below_drew1 HB.out)
          clear BK364
          clear HB
          have BK364 := n0_
          have HB := n1_
          clear n0_ n1_
          have p366 : 0 ≤ (x11_1 : Int) := of_decide_eq_true asz
          have q366 : x11_1 < (l3.length : Int) := of_decide_eq_true asz
          obtain ⟨ad366, e366, hx366_0⟩ := Kd.at_int HR3.out x11_1 p366 q366
          have hw366_0 := hx366_0
          cases e366
          replace hx366_0 := (HB.out.cell (World.block_lt_of_cell? w _ hx366_0)).trans hx366_0
          replace p366 := eq_true p366
          replace q366 := eq_true q366
          have p367 : 0 ≤ (x11_1 : Int) := of_decide_eq_true asz
          have q367 : x11_1 < (l3.length : Int) := of_decide_eq_true asz
          obtain ⟨ad367, e367, hx367_0⟩ := Kd.at_int HR3.out x11_1 p367 q367
          have hw367_0 := hx367_0
          obtain rfl : ad366 = ad367 := (by injection e367)
          replace hx367_0 := (HB.out.cell (World.block_lt_of_cell? w _ hx367_0)).trans hx367_0
          replace p367 := eq_true p367
          replace q367 := eq_true q367
          have p368 : 0 ≤ (x11_1 : Int) := of_decide_eq_true asz
          have q368 : x11_1 < (l3.length : Int) := of_decide_eq_true asz
          obtain ⟨ad368, e368, hx368_0⟩ := Kd.at_int HR3.out x11_1 p368 q368
          have hw368_0 := hx368_0
          obtain rfl : ad366 = ad368 := (by injection e368)
          replace hx368_0 := (HB.out.cell (World.block_lt_of_cell? w _ hx368_0)).trans hx368_0
          replace p368 := eq_true p368
          replace q368 := eq_true q368
          refine start_ (n := 40) (S := fun w' => w'.cell? ⟨gb364, 0, none⟩ = some (.int .i64 a0_0) ∧ w'.cell? ⟨gb364, 1, none⟩ = some (.slice A0_1 l0_1.length c0_1) ∧ w'.cell? ⟨gb364, 2, none⟩ = some (.slice A0_2 l0_2.length c0_2) ∧ w'.cell? (ad366.add (x11_1).toNat) = some (.int .i64 (rd l3 x11_1)) ∧ w'.cell? (ad366.add (x11_1).toNat) = some (.int .i64 (rd l3 x11_1)) ∧ w'.cell? (ad366.add (x11_1).toNat) = some (.int .i64 (rd l3 x11_1))) (ds := []) #[false, false, false, false, false, false, false, false, false, false, false, false, false, false, false, false, false, false, false, false, false, false, false, false, false, false, false, false, false, false, false, false, false, false, false, false, false, false, false, false] (by kernel_rfl) rfl rfl ⟨(blk_cell BK364.out 0).trans rfl, (blk_cell BK364.out 1).trans rfl, (blk_cell BK364.out 2).trans rfl, ((HB.out.cell (World.block_lt_of_cell? w _ hw366_0)).trans hw366_0), ((HB.out.cell (World.block_lt_of_cell? w _ hw367_0)).trans hw367_0), ((HB.out.cell (World.block_lt_of_cell? w _ hw368_0)).trans hw368_0)⟩ (fun hHeld => ?_); refine with_tabW dropperref05_Isolates.tab7 dropperref05_Isolates.bits7 (fun HT_ HW_ => ?_)
          generalize wr.drew = w25 at BK364 HB hx366_0 hx367_0 hx368_0 hHeld ⊢
          refine pst (i := 0) (N := some 26) (bz 40 1) (any_of HT_.out (by kernel_rfl)) ?_
          refine pst (i := 1) (N := some 27) (bz 40 3) (any_of HT_.out (by kernel_rfl)) ?_
          refine pst (i := 2) (N := some 28) (bz 40 7) (any_of HT_.out (by kernel_rfl)) ?_
          refine tst6 (i := 3) (N := some 29) (bz 40 15) (take_ofW HT_.out HW_.out (by kernel_rfl)) hHeld ?_
          refine pst (i := 4) (N := some 30) (bz 40 31) (any_of HT_.out (by kernel_rfl)) ?_
          refine pst (i := 5) (N := some 31) (bz 40 63) (any_of HT_.out (by kernel_rfl)) ?_
          refine pst (i := 6) (N := some 32) (bz 40 127) (any_of HT_.out (by kernel_rfl)) ?_
          refine pst (i := 7) (N := some 33) (bz 40 255) (any_of HT_.out (by kernel_rfl)) ?_
          refine pst (i := 8) (N := some 34) (bz 40 511) (any_of HT_.out (by kernel_rfl)) ?_
          refine pst (i := 10) (N := some 36) (bz 40 1535) (any_of HT_.out (by kernel_rfl)) ?_
          refine tst6 (i := 9) (N := some 35) (bz 40 2047) (take_ofW HT_.out HW_.out (by kernel_rfl)) hHeld ?_
          refine tst6 (i := 11) (N := some 37) (bz 40 4095) (take_ofW HT_.out HW_.out (by kernel_rfl)) hHeld ?_
          refine pst (i := 12) (N := some 38) (bz 40 8191) (any_of HT_.out (by kernel_rfl)) ?_
          refine pst (i := 13) (N := some 39) (bz 40 16383) (any_of HT_.out (by kernel_rfl)) ?_
          refine pst (i := 14) (N := some 40) (bz 40 32767) (any_of HT_.out (by kernel_rfl)) ?_
          refine pst (i := 15) (N := some 41) (bz 40 65535) (any_of HT_.out (by kernel_rfl)) ?_
          refine pst (i := 16) (N := some 42) (bz 40 131071) (any_of HT_.out (by kernel_rfl)) ?_
          refine pst (i := 17) (N := some 43) (bz 40 262143) (any_of HT_.out (by kernel_rfl)) ?_
          refine pst (i := 18) (N := some 44) (bz 40 524287) (any_of HT_.out (by kernel_rfl)) ?_
          refine pst (i := 19) (N := some 45) (bz 40 1048575) (any_of HT_.out (by kernel_rfl)) ?_
          refine tst6 (i := 20) (N := some 46) (bz 40 2097151) (take_ofW HT_.out HW_.out (by kernel_rfl)) hHeld ?_
          refine one_ (i := 21) (N := some 47) #[true, true, true, true, true, true, true, true, true, true, true, true, true, true, true, true, true, true, true, true, true, true, false, false, false, false, false, false, false, false, false, false, false, false, false, false, false, false, false, false] rfl rfl (one_of HT_.out (by kernel_rfl)) (by decide) (fun K hK => ?_)
          refine goes_ Tryd.func61 (by kernel_rfl) rfl #[.int .i64 a1, .int .i64 (rd l3 x11_1)] (by rfl) rfl rfl mapz ?_
          with_reducible refine (dropperref05_closed.calls a1 (rd l3 x11_1) true _ A16.out).mono ?_
          rintro e w' ⟨rfl, ⟨nd, rfl⟩⟩
          refine ⟨_, rfl, ?_⟩
          refine hK.out _ _ ⟨(blk_cell BK364.out 0).trans rfl, (blk_cell BK364.out 1).trans rfl, (blk_cell BK364.out 2).trans rfl, ((HB.out.cell (World.block_lt_of_cell? w _ hw366_0)).trans hw366_0), ((HB.out.cell (World.block_lt_of_cell? w _ hw367_0)).trans hw367_0), ((HB.out.cell (World.block_lt_of_cell? w _ hw368_0)).trans hw368_0)⟩ (fun hHeld => ?_)
          clear hK K
          refine norm_ (a' := ?_) ?_ ?_
          rotate_left
          ·
           show Act.put _ (some 47) _ = _
           simp only [Act.put, List.setIfInBounds_toArray, List.set_cons_zero, List.set_cons_succ, i64_w, i32_w]
           rfl
          refine pst (i := 22) (N := some 48) (bz 40 8388607) (any_of HT_.out (by kernel_rfl)) ?_
          refine pst (i := 23) (N := some 49) (bz 40 16777215) (any_of HT_.out (by kernel_rfl)) ?_
          refine pst (i := 24) (N := some 50) (bz 40 33554431) (any_of HT_.out (by kernel_rfl)) ?_
          refine pst (i := 25) (N := some 51) (bz 40 67108863) (any_of HT_.out (by kernel_rfl)) ?_
          refine pst (i := 26) (N := some 52) (bz 40 134217727) (any_of HT_.out (by kernel_rfl)) ?_
          refine pst (i := 27) (N := some 53) (bz 40 268435455) (any_of HT_.out (by kernel_rfl)) ?_
          refine pso (i := 28) (N := some 54) (bz 40 536870911) (any_of HT_.out (by kernel_rfl)) ?_
          refine pso (i := 29) (N := some 55) (bz 40 1073741823) (any_of HT_.out (by kernel_rfl)) ?_
          refine pso (i := 30) (N := some 56) (bz 40 2147483647) (any_of HT_.out (by kernel_rfl)) ?_
          refine pso (i := 31) (N := some 57) (bz 40 4294967295) (any_of HT_.out (by kernel_rfl)) ?_
          refine pso (i := 32) (N := some 58) (bz 40 8589934591) (any_of HT_.out (by kernel_rfl)) ?_
          refine pso (i := 33) (N := some 59) (bz 40 17179869183) (any_of HT_.out (by kernel_rfl)) ?_
          refine pso (i := 34) (N := some 60) (bz 40 34359738367) (any_of HT_.out (by kernel_rfl)) ?_
          refine pso (i := 35) (N := some 61) (bz 40 68719476735) (any_of HT_.out (by kernel_rfl)) ?_
          refine pso (i := 36) (N := some 62) (bz 40 137438953471) (any_of HT_.out (by kernel_rfl)) ?_
          refine pso (i := 37) (N := some 63) (bz 40 274877906943) (any_of HT_.out (by kernel_rfl)) ?_
          refine pst (i := 38) (N := some 64) (bz 40 549755813887) (any_of HT_.out (by kernel_rfl)) ?_
          refine pst (i := 39) (N := some 65) (bz 40 1099511627775) (any_of HT_.out (by kernel_rfl)) ?_
          refine done_ (done_of HT_.out (by kernel_rfl)) ?_
          try go_wp2
          go_roundg k1
          case measure => have := HK1.out; omega
          case rel => exact ⟨(wrap64 (x11_1 + 1)), rsz, H', ⟨by have := HK1.out; omega⟩, ⟨by (with_reducible repeat (first | refine blk_drewN ?_ _ | refine blk_drew ?_ | refine blk_alloc ?_ _)); exact BK364.out⟩, ⟨by repeat (first | (with_reducible first | exact HB.out | apply below_alloc | apply pw_below_drewN | apply below_drew1 | refine below_set ?_ GE364.out) | exact HB.out)⟩⟩
        ·
         replace c17 := Bool.eq_false_iff.mpr c17
         subst c17
         have H1 : (some (false, 0)) = some (r1, r2) := by rw [if_neg (show ¬ (false = true) by decide)] at H; exact H
         clear H
         have H := H1
         clear H1
         simp only [Option.some.injEq, Prod.mk.injEq] at H
         obtain ⟨rfl, rfl⟩ := H
         try go_wp2
         have n0_ := Aside0.mk (blk_drew BK364.out)
         have n1_ := Aside0.mk (below_drew1 HB.out)
         clear BK364
         clear HB
         have BK364 := n0_
         have HB := n1_
         clear n0_ n1_
         have p366 : 0 ≤ (x11_1 : Int) := of_decide_eq_true asz
         have q366 : x11_1 < (l3.length : Int) := of_decide_eq_true asz
         obtain ⟨ad366, e366, hx366_0⟩ := Kd.at_int HR3.out x11_1 p366 q366
         have hw366_0 := hx366_0
         cases e366
         replace hx366_0 := (HB.out.cell (World.block_lt_of_cell? w _ hx366_0)).trans hx366_0
         replace p366 := eq_true p366
         replace q366 := eq_true q366
         have p367 : 0 ≤ (x11_1 : Int) := of_decide_eq_true asz
         have q367 : x11_1 < (l3.length : Int) := of_decide_eq_true asz
         obtain ⟨ad367, e367, hx367_0⟩ := Kd.at_int HR3.out x11_1 p367 q367
         have hw367_0 := hx367_0
         obtain rfl : ad366 = ad367 := (by injection e367)
         replace hx367_0 := (HB.out.cell (World.block_lt_of_cell? w _ hx367_0)).trans hx367_0
         replace p367 := eq_true p367
         replace q367 := eq_true q367
         have p368 : 0 ≤ (x11_1 : Int) := of_decide_eq_true asz
         have q368 : x11_1 < (l3.length : Int) := of_decide_eq_true asz
         obtain ⟨ad368, e368, hx368_0⟩ := Kd.at_int HR3.out x11_1 p368 q368
         have hw368_0 := hx368_0
         obtain rfl : ad366 = ad368 := (by injection e368)
         replace hx368_0 := (HB.out.cell (World.block_lt_of_cell? w _ hx368_0)).trans hx368_0
         replace p368 := eq_true p368
         replace q368 := eq_true q368
         refine start_ (n := 40) (S := fun w' => w'.cell? ⟨gb364, 0, none⟩ = some (.int .i64 a0_0) ∧ w'.cell? ⟨gb364, 1, none⟩ = some (.slice A0_1 l0_1.length c0_1) ∧ w'.cell? ⟨gb364, 2, none⟩ = some (.slice A0_2 l0_2.length c0_2) ∧ w'.cell? (ad366.add (x11_1).toNat) = some (.int .i64 (rd l3 x11_1)) ∧ w'.cell? (ad366.add (x11_1).toNat) = some (.int .i64 (rd l3 x11_1)) ∧ w'.cell? (ad366.add (x11_1).toNat) = some (.int .i64 (rd l3 x11_1))) (ds := []) #[false, false, false, false, false, false, false, false, false, false, false, false, false, false, false, false, false, false, false, false, false, false, false, false, false, false, false, false, false, false, false, false, false, false, false, false, false, false, false, false] (by kernel_rfl) rfl rfl ⟨(blk_cell BK364.out 0).trans rfl, (blk_cell BK364.out 1).trans rfl, (blk_cell BK364.out 2).trans rfl, ((HB.out.cell (World.block_lt_of_cell? w _ hw366_0)).trans hw366_0), ((HB.out.cell (World.block_lt_of_cell? w _ hw367_0)).trans hw367_0), ((HB.out.cell (World.block_lt_of_cell? w _ hw368_0)).trans hw368_0)⟩ (fun hHeld => ?_); refine with_tabW dropperref05_Isolates.tab7 dropperref05_Isolates.bits7 (fun HT_ HW_ => ?_)
         generalize wr.drew = w26 at BK364 HB hx366_0 hx367_0 hx368_0 hHeld ⊢
         refine pst (i := 0) (N := some 26) (bz 40 1) (any_of HT_.out (by kernel_rfl)) ?_
         refine pst (i := 1) (N := some 27) (bz 40 3) (any_of HT_.out (by kernel_rfl)) ?_
         refine pst (i := 2) (N := some 28) (bz 40 7) (any_of HT_.out (by kernel_rfl)) ?_
         refine tst6 (i := 3) (N := some 29) (bz 40 15) (take_ofW HT_.out HW_.out (by kernel_rfl)) hHeld ?_
         refine pst (i := 4) (N := some 30) (bz 40 31) (any_of HT_.out (by kernel_rfl)) ?_
         refine pst (i := 5) (N := some 31) (bz 40 63) (any_of HT_.out (by kernel_rfl)) ?_
         refine pst (i := 6) (N := some 32) (bz 40 127) (any_of HT_.out (by kernel_rfl)) ?_
         refine pst (i := 7) (N := some 33) (bz 40 255) (any_of HT_.out (by kernel_rfl)) ?_
         refine pst (i := 8) (N := some 34) (bz 40 511) (any_of HT_.out (by kernel_rfl)) ?_
         refine pst (i := 10) (N := some 36) (bz 40 1535) (any_of HT_.out (by kernel_rfl)) ?_
         refine tst6 (i := 9) (N := some 35) (bz 40 2047) (take_ofW HT_.out HW_.out (by kernel_rfl)) hHeld ?_
         refine tst6 (i := 11) (N := some 37) (bz 40 4095) (take_ofW HT_.out HW_.out (by kernel_rfl)) hHeld ?_
         refine pst (i := 12) (N := some 38) (bz 40 8191) (any_of HT_.out (by kernel_rfl)) ?_
         refine pst (i := 13) (N := some 39) (bz 40 16383) (any_of HT_.out (by kernel_rfl)) ?_
         refine pst (i := 14) (N := some 40) (bz 40 32767) (any_of HT_.out (by kernel_rfl)) ?_
         refine pst (i := 15) (N := some 41) (bz 40 65535) (any_of HT_.out (by kernel_rfl)) ?_
         refine pst (i := 16) (N := some 42) (bz 40 131071) (any_of HT_.out (by kernel_rfl)) ?_
         refine pst (i := 17) (N := some 43) (bz 40 262143) (any_of HT_.out (by kernel_rfl)) ?_
         refine pst (i := 18) (N := some 44) (bz 40 524287) (any_of HT_.out (by kernel_rfl)) ?_
         refine pst (i := 19) (N := some 45) (bz 40 1048575) (any_of HT_.out (by kernel_rfl)) ?_
         refine tst6 (i := 20) (N := some 46) (bz 40 2097151) (take_ofW HT_.out HW_.out (by kernel_rfl)) hHeld ?_
         refine one_ (i := 21) (N := some 47) #[true, true, true, true, true, true, true, true, true, true, true, true, true, true, true, true, true, true, true, true, true, true, false, false, false, false, false, false, false, false, false, false, false, false, false, false, false, false, false, false] rfl rfl (one_of HT_.out (by kernel_rfl)) (by decide) (fun K hK => ?_)
         refine goes_ Tryd.func61 (by kernel_rfl) rfl #[.int .i64 a1, .int .i64 (rd l3 x11_1)] (by rfl) rfl rfl mapz ?_
         with_reducible refine (dropperref05_closed.calls a1 (rd l3 x11_1) false _ A16.out).mono ?_
         rintro e w' ⟨rfl, ⟨nd, rfl⟩⟩
         refine ⟨_, rfl, ?_⟩
         refine hK.out _ _ ⟨(blk_cell BK364.out 0).trans rfl, (blk_cell BK364.out 1).trans rfl, (blk_cell BK364.out 2).trans rfl, ((HB.out.cell (World.block_lt_of_cell? w _ hw366_0)).trans hw366_0), ((HB.out.cell (World.block_lt_of_cell? w _ hw367_0)).trans hw367_0), ((HB.out.cell (World.block_lt_of_cell? w _ hw368_0)).trans hw368_0)⟩ (fun hHeld => ?_)
         clear hK K
         refine norm_ (a' := ?_) ?_ ?_
         rotate_left
         ·
          show Act.put _ (some 47) _ = _
          simp only [Act.put, List.setIfInBounds_toArray, List.set_cons_zero, List.set_cons_succ, i64_w, i32_w]
          rfl
         refine pst (i := 22) (N := some 48) (bz 40 8388607) (any_of HT_.out (by kernel_rfl)) ?_
         refine pst (i := 23) (N := some 49) (bz 40 16777215) (any_of HT_.out (by kernel_rfl)) ?_
         refine pst (i := 24) (N := some 50) (bz 40 33554431) (any_of HT_.out (by kernel_rfl)) ?_
         refine pso (i := 25) (N := some 51) (bz 40 67108863) (any_of HT_.out (by kernel_rfl)) ?_
         refine pso (i := 26) (N := some 52) (bz 40 134217727) (any_of HT_.out (by kernel_rfl)) ?_
         refine pso (i := 27) (N := some 53) (bz 40 268435455) (any_of HT_.out (by kernel_rfl)) ?_
         refine pso (i := 28) (N := some 54) (bz 40 536870911) (any_of HT_.out (by kernel_rfl)) ?_
         refine pso (i := 29) (N := some 55) (bz 40 1073741823) (any_of HT_.out (by kernel_rfl)) ?_
         refine pso (i := 30) (N := some 56) (bz 40 2147483647) (any_of HT_.out (by kernel_rfl)) ?_
         refine pso (i := 31) (N := some 57) (bz 40 4294967295) (any_of HT_.out (by kernel_rfl)) ?_
         refine pso (i := 32) (N := some 58) (bz 40 8589934591) (any_of HT_.out (by kernel_rfl)) ?_
         refine pso (i := 33) (N := some 59) (bz 40 17179869183) (any_of HT_.out (by kernel_rfl)) ?_
         refine pso (i := 34) (N := some 60) (bz 40 34359738367) (any_of HT_.out (by kernel_rfl)) ?_
         refine pso (i := 35) (N := some 61) (bz 40 68719476735) (any_of HT_.out (by kernel_rfl)) ?_
         refine pso (i := 36) (N := some 62) (bz 40 137438953471) (any_of HT_.out (by kernel_rfl)) ?_
         refine pso (i := 37) (N := some 63) (bz 40 274877906943) (any_of HT_.out (by kernel_rfl)) ?_
         refine pso (i := 38) (N := some 64) (bz 40 549755813887) (any_of HT_.out (by kernel_rfl)) ?_
         refine pst (i := 39) (N := some 65) (bz 40 1099511627775) (any_of HT_.out (by kernel_rfl)) ?_
         refine done_ (done_of HT_.out (by kernel_rfl)) ?_
         try go_wp2
         go_ret2
         exact ⟨by first | rfl | (simp [errW_none, errW_some] <;> rfl) | (simp [*, errW_none, errW_some] <;> rfl), by repeat (first | (with_reducible first | exact HB.out | apply below_alloc | apply pw_below_drewN | apply below_drew1 | refine below_set ?_ GE364.out) | exact HB.out)⟩
     ·
      rw [if_neg c11] at H
      exact absurd H (by simp)
    ·
     rw [if_neg c10] at H
     have c10b0 : decide (x11_1 < (l3.length : Int)) = false := decide_eq_false c10
     clear c10
     have H' := Aside0.mk H
     clear H
     go_wp2
     go_loopg [1, 12] k1 (fun kq v1 v12 w' => ∃ (x1_2 : Int) (x12_2 : Int), v1 = .int .i64 x1_2 ∧ v12 = .int .i64 x12_2 ∧ Aside0 (dropperref05_Isolates.l1 kq x1_2 a2 l3 x12_2 a0_0 l0_1 l0_2 = some (r1, r2)) ∧ Aside0 (kq ≤ k1) ∧ Aside0 (w'.heap[gb364]? = some (.cells #[.int .i64 a0_0, (.slice A0_1 l0_1.length c0_1), (.slice A0_2 l0_2.length c0_2)] 25 (0, 0))) ∧ Aside0 (Below w.heap.size w w'))
     case atStart => exact ⟨(a1), (0), rsz, rsz, H', ⟨Nat.le_refl _⟩, ⟨by (with_reducible repeat (first | refine blk_drewN ?_ _ | refine blk_drew ?_ | refine blk_alloc ?_ _)); exact BK364.out⟩, ⟨by repeat (first | (with_reducible first | exact HB.out | apply below_alloc | apply pw_below_drewN | apply below_drew1 | refine below_set ?_ GE364.out) | exact HB.out)⟩⟩
     case round =>
      clear H'
      try clear c1
      try clear p2
      try clear p3
      try clear q3
      try clear hx3
      try clear c6
      try clear p6
      try clear c10
      try clear c10b0
      try clear c11
      try clear c17
      try clear hx366_0
      try clear hx367_0
      try clear hx368_0
      try clear p366
      try clear p367
      try clear p368
      try clear q366
      try clear q367
      try clear q368
      obtain ⟨x1_2, x12_2, rfl, rfl, HA, HK2, BK364, HB⟩ := hrel
      cases gk with
      | zero => exact absurd HA.out (by simp [dropperref05_Isolates.l1])
      | succ k2 =>
       have H := HA.out
       clear HA
       simp only [dropperref05_Isolates.l1] at H
       by_cases c27 : x12_2 < (l3.length : Int)
       ·
        rw [if_pos c27] at H
        have c27b0 : decide (x12_2 < (l3.length : Int)) = true := decide_eq_true c27
        clear c27
        by_cases c28 : 0 ≤ x12_2
        ·
         rw [if_pos c28] at H
         have c28b0 : decide (0 ≤ x12_2) = true := decide_eq_true c28
         clear c28
         by_cases c29 : 0 ≤ (rd l3 x12_2)
         ·
          rw [if_pos c29] at H
          have c29b0 := eq_true c29
          have c29b1 : decide (0 ≤ (rd l3 x12_2)) = true := decide_eq_true c29
          clear c29
          obtain ⟨ji30, hji30⟩ : ∃ j_ : Int, (shl .i64 1 (rd l3 x12_2)) = j_ := ⟨_, rfl⟩
          replace H : (dropperref05_Isolates.l1 k2 (wrap64 (x1_2 - (ji30))) a2 l3 (wrap64 (x12_2 + 1)) a0_0 l0_1 l0_2) = some (r1, r2) := by first | (rw [hji30] at H; exact H) | (simp only [hji30] at H ⊢; exact H)
          have hji30_ : (IntKind.i64.wrap (1 * 2 ^ min (rd l3 x12_2).toNat 64)) = ji30 := hji30
          have hji30z : (rd l3 x12_2) ≤ 64 → (IntKind.i64.wrap (1 * 2 ^ (rd l3 x12_2).toNat)) = ji30 := shl_small hji30
          have hji30u : (IntKind.i64.wrap (2 ^ min (rd l3 x12_2).toNat 64)) = ji30 := by have h_ := hji30_; rw [Int.one_mul] at h_; exact h_
          have hji30v : (rd l3 x12_2) ≤ 64 → (IntKind.i64.wrap (2 ^ (rd l3 x12_2).toNat)) = ji30 := fun hle_ => by have h_ := hji30z hle_; rw [Int.one_mul] at h_; exact h_
          have hji30y : (wrap64 (1 * 2 ^ min (rd l3 x12_2).toNat 64)) = ji30 := (i64_w _).symm.trans hji30_
          have hji30x : (rd l3 x12_2) ≤ 64 → (wrap64 (1 * 2 ^ (rd l3 x12_2).toNat)) = ji30 := fun h_ => (i64_w _).symm.trans (hji30z h_)
          have H' := Aside0.mk H
          clear H
          have p372 : 0 ≤ (x12_2 : Int) := of_decide_eq_true asz
          have q372 : x12_2 < (l3.length : Int) := of_decide_eq_true asz
          obtain ⟨ad372, e372, hx372_0⟩ := Kd.at_int HR3.out x12_2 p372 q372
          cases e372
          replace hx372_0 := (HB.out.cell (World.block_lt_of_cell? w _ hx372_0)).trans hx372_0
          replace p372 := eq_true p372
          replace q372 := eq_true q372
          go_wp2
          go_roundg k2
          case measure => have := HK1.out; have := HK2.out; omega
          case rel => exact ⟨(wrap64 (x1_2 - (ji30))), (wrap64 (x12_2 + 1)), (by first | rfl | (simp; done) | (simp only [← hji30] <;> (first | rfl | simp)) | (simp [*]; done)), rsz, H', ⟨by have := HK1.out; have := HK2.out; omega⟩, ⟨by (with_reducible repeat (first | refine blk_drewN ?_ _ | refine blk_drew ?_ | refine blk_alloc ?_ _)); exact BK364.out⟩, ⟨by repeat (first | (with_reducible first | exact HB.out | apply below_alloc | apply pw_below_drewN | apply below_drew1 | refine below_set ?_ GE364.out) | exact HB.out)⟩⟩
         ·
          rw [if_neg c29] at H
          exact absurd H (by simp)
        ·
         rw [if_neg c28] at H
         exact absurd H (by simp)
       ·
        rw [if_neg c27] at H
        have c27b0 : decide (x12_2 < (l3.length : Int)) = false := decide_eq_false c27
        clear c27
        replace H := Option.bind_eq_some_iff.mp H
        obtain ⟨t373, A310, H⟩ := H
        replace H : (if 0 ≤ a2 then (if a2 < (t373.length : Int) then (some (((rd t373 a2) == 0), 0)) else (none)) else (none)) = some (r1, r2) := H
        have A31 := Aside0.mk A310
        clear A310
        by_cases c32 : 0 ≤ a2
        ·
         rw [if_pos c32] at H
         have c32b0 : decide (0 ≤ a2) = true := decide_eq_true c32
         clear c32
         by_cases c33 : a2 < (t373.length : Int)
         ·
          rw [if_pos c33] at H
          have c33b0 : decide (a2 < (t373.length : Int)) = true := decide_eq_true c33
          clear c33
          simp only [Option.some.injEq, Prod.mk.injEq] at H
          obtain ⟨rfl, rfl⟩ := H
          have hcz34_0 := blkc BK364.out 0 (.int .i64 a0_0) rfl
          have hcz34_1 := blkc BK364.out 1 (.slice A0_1 l0_1.length c0_1) rfl
          have hcz34_2 := blkc BK364.out 2 (.slice A0_2 l0_2.length c0_2) rfl
          have hfz34_0 := blk_frozen BK364.out 0
          have hfz34_1 := blk_frozen BK364.out 1
          have hfz34_2 := blk_frozen BK364.out 2
          go_wp2_with (first | ((with_reducible refine gate_callee (f := 49) rfl ?_); refine goesL_ (some 81) rfl rfl Tryd.func49 (by kernel_rfl) rfl #[.agg #[.int .i64 a0_0, .slice A0_1 l0_1.length c0_1, .slice A0_2 l0_2.length c0_2], .int .i64 x1_2] rfl mapz ?_; (with_reducible refine (dropperref05_live.calls k2 a0_0 _ _ l0_1 _ _ l0_2 x1_2 t373 _ ?side1 ?side2 ?side3 ?side4 A31.out).mono ?_); (case side1 => exact cbz HR0_1); (case side2 => exact HC0_1.out); (case side3 => exact cbz HR0_2); (case side4 => exact HC0_2.out); rintro e w35 ⟨v374, rfl, ho0, hb⟩; refine ⟨_, rfl, ?_⟩; have n0_ := Aside0.mk (Kd.R_lower ho0 (below_size bel)); have n1_ := Aside0.mk (blk_below (g := gb364) blkz hb); have n2_ := Aside0.mk (below_step bel hb); clear BK364; clear HB; have HO375 := n0_; have BK364 := n1_; have HB := n2_; clear n0_ n1_ n2_; (try clear hb); (try clear hb2); (try clear hk); (try clear hi); (try clear ho0); obtain ⟨Ao36, co36, eo36⟩ := Kd.R_slice HO375.out; subst eo36; have p376 : 0 ≤ (a2 : Int) := of_decide_eq_true asz; have q376 : a2 < (t373.length : Int) := of_decide_eq_true asz; obtain ⟨ad376, e376, hx376_0⟩ := Kd.at_int (Kd.R_reads' HO375.out).2.2 a2 p376 q376; cases e376; replace p376 := eq_true p376; replace q376 := eq_true q376))
          go_ret2
          exact ⟨by first | rfl | (simp [errW_none, errW_some] <;> rfl) | (simp [*, errW_none, errW_some] <;> rfl), by repeat (first | (with_reducible first | exact HB.out | apply below_alloc | apply pw_below_drewN | apply below_drew1 | refine below_set ?_ GE364.out) | exact HB.out)⟩
         ·
          rw [if_neg c33] at H
          exact absurd H (by simp)
        ·
         rw [if_neg c32] at H
         exact absurd H (by simp)
 ·
  rw [if_neg c6] at H
  have c6b0 : (t365 == 0) = false := beq_eq_false_iff_ne.mpr c6
  have c6b1 : (t365 != 0) = true := bne_iff_ne.mpr c6
  simp only [Option.some.injEq, Prod.mk.injEq] at H
  obtain ⟨rfl, rfl⟩ := H
  go_enter Tryd.func23, Tryd.ntmps23
  go_wp2_with (first | ((with_reducible refine gate_dst (N := 4) rfl ?_); (try (refine gate_guard (by rfl) ?_; dsimp only)); refine box_event ?hg (N := 4) ?hd (cs := #[.int .i64 a0_0, .slice A0_1 l0_1.length c0_1, .slice A0_2 l0_2.length c0_2]) (t := 25) ?hr ?_; (case hd => rfl); (case hg => rfl); (case hr => first | (go_simp; done) | (go_simp; rfl)); intro gb364 hg w37 hbox hb; have n0_ := Aside0.mk (below_step bel hb); have n1_ := Aside0.mk (hbox); have n2_ := Aside0.mk ((by rw [hg]; exact (below_size bel) : w.heap.size ≤ gb364)); have n3_ := n2_; clear HB; have HB := n0_; have BK364 := n1_; have GW364 := n2_; have GE364 := n3_; clear n0_ n1_ n2_ n3_; clear hb hbox hg; have hcz38_0 := blkc BK364.out 0 (.int .i64 a0_0) rfl; have hcz38_1 := blkc BK364.out 1 (.slice A0_1 l0_1.length c0_1) rfl; have hcz38_2 := blkc BK364.out 2 (.slice A0_2 l0_2.length c0_2) rfl; have hfz38_0 := blk_frozen BK364.out 0; have hfz38_1 := blk_frozen BK364.out 1; have hfz38_2 := blk_frozen BK364.out 2) | ((with_reducible refine gate_callee (f := 25) rfl ?_); refine goesL_ (some 16) rfl rfl Tryd.func25 (by kernel_rfl) rfl #[.agg #[.int .i64 a0_0, .slice A0_1 l0_1.length c0_1, .slice A0_2 l0_2.length c0_2], .int .i64 a1, .int .i64 a2] rfl mapz ?_; (with_reducible refine (dropperref05_Why.calls k a0_0 _ _ l0_1 _ _ l0_2 a1 a2 t365 _ ?side1 ?side2 ?side3 ?side4 A5.out).mono ?_); (case side1 => exact cbz HR0_1); (case side2 => exact HC0_1.out); (case side3 => exact cbz HR0_2); (case side4 => exact HC0_2.out); rintro e w39 ⟨rfl, hb⟩; refine ⟨_, rfl, ?_⟩; have n0_ := Aside0.mk (blk_below (g := gb364) blkz hb); have n1_ := Aside0.mk (below_step bel hb); clear BK364; clear HB; have BK364 := n0_; have HB := n1_; clear n0_ n1_; (try clear hb); (try clear hb2); (try clear hk); (try clear hi)))
  go_ret2
  exact ⟨by first | rfl | (simp [errW_none, errW_some] <;> rfl) | (simp [*, errW_none, errW_some] <;> rfl), by repeat (first | (with_reducible first | exact HB.out | apply below_alloc | apply pw_below_drewN | apply below_drew1 | refine below_set ?_ GE364.out) | exact HB.out)⟩

end Go.Proofs.YtoilhnmdemnknaaDoor.XFeed

-- Written by wip/xprint.py of this repo, over the kit's print.py: out of the translation; the oracles in it are by hand. Not trusted: Lean checks it.
namespace Go.Proofs.YtoilhnmdemnknaaDoor.XFeed
open Go.RowKit Go.Proofs.YtoilhnmdemnknaaDoorW.PrintWords Go.Proofs.YtoilhnmdemnknaaDoorW.PrintLast Go.Proofs.YtoilhnmdemnknaaDoorW.PrintMore
attribute [local go_sem] max2_int min2_int max_two min_two max_three min_three max_four min_four   -- for this text's walks alone
set_option linter.unusedVariables false
set_option linter.unusedSimpArgs false

/-! ### dropperref05_At: function 26 -/
def dropperref05_At.l0 : Nat → Int → Int → Int → List (S69) → List (S71) → Option (Bool)
 | 0, _, _, _, _, _ => none
 | k + 1, x1, x5, x378000, x378001, x378002 => if x5 < (x378002.length : Int) then (if 0 ≤ x5 then (if ((rd_T71 x378002 x5).f0) = x1 then (some true) else (dropperref05_At.l0 k x1 (wrap64 (x5 + 1)) x378000 x378001 x378002)) else (none)) else (some false)
def dropperref05_At.f (k : Nat) (a0_0 : Int) (l0_1 : List (S69)) (l0_2 : List (S71)) (a1 : Int) : Option (Bool) := dropperref05_At.l0 k a1 0 a0_0 l0_1 l0_2
theorem dropperref05_At.mono_l : ∀ k, (∀ y0 y1 y2 y3 y4, LeO (dropperref05_At.l0 k y0 y1 y2 y3 y4) (dropperref05_At.l0 (k + 1) y0 y1 y2 y3 y4))
 | 0 => fun _ _ _ _ _ r h => by simp [dropperref05_At.l0] at h
 | k + 1 => by
  have ih0 := dropperref05_At.mono_l k
  ·
   intro y0 y1 y2 y3 y4
   unfold dropperref05_At.l0
   repeat' first
   | (with_reducible exact ih0 _ _ _ _ _)
   | (with_reducible exact LeO.refl _)
   | (with_reducible exact LeO.none _)
   | (with_reducible refine LeO.ite ?_ ?_)
   | (with_reducible refine LeO.bind ?_ (fun _ => ?_))
   | exact ih0 _ _ _ _ _
   | exact LeO.none _
   | refine LeO.ite ?_ ?_
   | refine LeO.bind ?_ (fun _ => ?_)
theorem dropperref05_At.mono : ∀ a0 a1 a2 a3 k, LeO (dropperref05_At.f k a0 a1 a2 a3) (dropperref05_At.f (k + 1) a0 a1 a2 a3) := by
 intro a0 a1 a2 a3 k
 have ih0 := dropperref05_At.mono_l k
 unfold dropperref05_At.f
 repeat' first
   | (with_reducible exact ih0 _ _ _ _ _)
   | (with_reducible exact LeO.refl _)
   | (with_reducible exact LeO.none _)
   | (with_reducible refine LeO.ite ?_ ?_)
   | (with_reducible refine LeO.bind ?_ (fun _ => ?_))
   | exact ih0 _ _ _ _ _
   | exact LeO.none _
   | refine LeO.ite ?_ ?_
   | refine LeO.bind ?_ (fun _ => ?_)
set_option maxHeartbeats 8000000 in
set_option maxRecDepth 100000 in
theorem dropperref05_At.calls (k : Nat) (a0_0 : Int) (A0_1 : Option Addr) (c0_1 : Nat) (l0_1 : List (S69)) (A0_2 : Option Addr) (c0_2 : Nat) (l0_2 : List (S71)) (a1 : Int) (r : Bool) (w : World) (hr0_1 : Kd.C k69 w A0_1 l0_1.length l0_1) (hc0_1 : l0_1.length ≤ c0_1) (hr0_2 : Kd.C k71 w A0_2 l0_2.length l0_2) (hc0_2 : l0_2.length ≤ c0_2) (h : dropperref05_At.f k a0_0 l0_1 l0_2 a1 = some r) :
  Calls Tryd.prog 26 #[.agg #[.int .i64 a0_0, .slice A0_1 l0_1.length c0_1, .slice A0_2 l0_2.length c0_2], .int .i64 a1] w fun e w' => e = .returned (.bool r) ∧ Below w.heap.size w w' := by
 have hu25 := Tryd.underlying25
 have HR0_1 := Aside0.mk hr0_1
 have HC0_1 := Aside0.mk hc0_1
 clear hr0_1 hc0_1
 have HR0_2 := Aside0.mk hr0_2
 have HC0_2 := Aside0.mk hc0_2
 clear hr0_2 hc0_2
 have HB := Aside0.mk (Below.refl w.heap.size w)
 have H : (dropperref05_At.l0 k a1 0 a0_0 l0_1 l0_2) = some r := h
 clear h
 have H' := Aside0.mk H
 clear H
 go_enter Tryd.func26, Tryd.ntmps26
 go_wp2_with (first | ((with_reducible refine gate_dst (N := 2) rfl ?_); refine box_event ?hg (N := 2) ?hd (cs := #[.int .i64 a0_0, .slice A0_1 l0_1.length c0_1, .slice A0_2 l0_2.length c0_2]) (t := 25) ?hr ?_; (case hd => rfl); (case hg => rfl); (case hr => first | (go_simp; done) | (go_simp; rfl)); intro gb377 hg w3 hbox hb; have n0_ := Aside0.mk (below_step bel hb); have n1_ := Aside0.mk (hbox); have n2_ := Aside0.mk ((by rw [hg]; exact (below_size bel) : w.heap.size ≤ gb377)); have n3_ := n2_; clear HB; have HB := n0_; have BK377 := n1_; have GW377 := n2_; have GE377 := n3_; clear n0_ n1_ n2_ n3_; clear hb hbox hg))
 go_loopg [5] k (fun kq v5 w' => ∃ (x5_1 : Int), v5 = .int .i64 x5_1 ∧ Aside0 (dropperref05_At.l0 kq a1 x5_1 a0_0 l0_1 l0_2 = some r) ∧ Aside0 (kq ≤ k) ∧ Aside0 (w'.heap[gb377]? = some (.cells #[.int .i64 a0_0, (.slice A0_1 l0_1.length c0_1), (.slice A0_2 l0_2.length c0_2)] 25 (0, 0))) ∧ Aside0 (Below w.heap.size w w'))
 case atStart => exact ⟨(0), rsz, H', ⟨Nat.le_refl _⟩, ⟨by (with_reducible repeat (first | refine blk_drewN ?_ _ | refine blk_drew ?_ | refine blk_alloc ?_ _)); exact BK377.out⟩, ⟨by repeat (first | (with_reducible first | exact HB.out | apply below_alloc | apply pw_below_drewN | apply below_drew1 | refine below_set ?_ GE377.out) | exact HB.out)⟩⟩
 case round =>
  clear H'
  try clear c2
  try clear p2
  obtain ⟨x5_1, rfl, HA, HK1, BK377, HB⟩ := hrel
  cases gk with
  | zero => exact absurd HA.out (by simp [dropperref05_At.l0])
  | succ k1 =>
   have H := HA.out
   clear HA
   simp only [dropperref05_At.l0] at H
   by_cases c4 : x5_1 < (l0_2.length : Int)
   ·
    rw [if_pos c4] at H
    have c4b0 : decide (x5_1 < (l0_2.length : Int)) = true := decide_eq_true c4
    clear c4
    by_cases c5 : 0 ≤ x5_1
    ·
     rw [if_pos c5] at H
     have c5b0 : decide (0 ≤ x5_1) = true := decide_eq_true c5
     clear c5
     by_cases c6 : ((rd_T71 l0_2 x5_1).f0) = a1
     ·
      rw [if_pos c6] at H
      have c6b0 : (((rd_T71 l0_2 x5_1).f0) == a1) = true := beq_iff_eq.mpr c6
      have c6b1 : (((rd_T71 l0_2 x5_1).f0) != a1) = false := bne_eq_false_iff_eq.mpr c6
      clear c6
      obtain rfl := Option.some.inj H
      have hcz7_0 := blkc BK377.out 0 (.int .i64 a0_0) rfl
      have hcz7_1 := blkc BK377.out 1 (.slice A0_1 l0_1.length c0_1) rfl
      have hcz7_2 := blkc BK377.out 2 (.slice A0_2 l0_2.length c0_2) rfl
      have hfz7_0 := blk_frozen BK377.out 0
      have hfz7_1 := blk_frozen BK377.out 1
      have hfz7_2 := blk_frozen BK377.out 2
      have p378 : 0 ≤ (x5_1 : Int) := of_decide_eq_true asz
      have q378 : x5_1 < (l0_2.length : Int) := of_decide_eq_true asz
      obtain ⟨ad378, e378, hx378_0, hx378_1⟩ := at_T71 HR0_2.out x5_1 p378 q378
      cases e378
      replace hx378_0 := (HB.out.cell (World.block_lt_of_cell? w _ hx378_0)).trans hx378_0
      replace hx378_1 := (HB.out.cell (World.block_lt_of_cell? w _ hx378_1)).trans hx378_1
      replace p378 := eq_true p378
      replace q378 := eq_true q378
      go_wp2
      go_ret
      exact ⟨by first | rfl | (simp [errW_none, errW_some] <;> rfl) | (simp [*, errW_none, errW_some] <;> rfl), by repeat (first | (with_reducible first | exact HB.out | apply below_alloc | apply pw_below_drewN | apply below_drew1 | refine below_set ?_ GE377.out) | exact HB.out)⟩
     ·
      rw [if_neg c6] at H
      have c6b0 : (((rd_T71 l0_2 x5_1).f0) == a1) = false := beq_eq_false_iff_ne.mpr c6
      have c6b1 : (((rd_T71 l0_2 x5_1).f0) != a1) = true := bne_iff_ne.mpr c6
      have H' := Aside0.mk H
      clear H
      have hcz8_0 := blkc BK377.out 0 (.int .i64 a0_0) rfl
      have hcz8_1 := blkc BK377.out 1 (.slice A0_1 l0_1.length c0_1) rfl
      have hcz8_2 := blkc BK377.out 2 (.slice A0_2 l0_2.length c0_2) rfl
      have hfz8_0 := blk_frozen BK377.out 0
      have hfz8_1 := blk_frozen BK377.out 1
      have hfz8_2 := blk_frozen BK377.out 2
      have p378 : 0 ≤ (x5_1 : Int) := of_decide_eq_true asz
      have q378 : x5_1 < (l0_2.length : Int) := of_decide_eq_true asz
      obtain ⟨ad378, e378, hx378_0, hx378_1⟩ := at_T71 HR0_2.out x5_1 p378 q378
      cases e378
      replace hx378_0 := (HB.out.cell (World.block_lt_of_cell? w _ hx378_0)).trans hx378_0
      replace hx378_1 := (HB.out.cell (World.block_lt_of_cell? w _ hx378_1)).trans hx378_1
      replace p378 := eq_true p378
      replace q378 := eq_true q378
      go_wp2
      go_roundg k1
      case measure => have := HK1.out; omega
      case rel => exact ⟨(wrap64 (x5_1 + 1)), rsz, H', ⟨by have := HK1.out; omega⟩, ⟨by (with_reducible repeat (first | refine blk_drewN ?_ _ | refine blk_drew ?_ | refine blk_alloc ?_ _)); exact BK377.out⟩, ⟨by repeat (first | (with_reducible first | exact HB.out | apply below_alloc | apply pw_below_drewN | apply below_drew1 | refine below_set ?_ GE377.out) | exact HB.out)⟩⟩
    ·
     rw [if_neg c5] at H
     exact absurd H (by simp)
   ·
    rw [if_neg c4] at H
    have c4b0 : decide (x5_1 < (l0_2.length : Int)) = false := decide_eq_false c4
    clear c4
    obtain rfl := Option.some.inj H
    have hcz9_0 := blkc BK377.out 0 (.int .i64 a0_0) rfl
    have hcz9_1 := blkc BK377.out 1 (.slice A0_1 l0_1.length c0_1) rfl
    have hcz9_2 := blkc BK377.out 2 (.slice A0_2 l0_2.length c0_2) rfl
    have hfz9_0 := blk_frozen BK377.out 0
    have hfz9_1 := blk_frozen BK377.out 1
    have hfz9_2 := blk_frozen BK377.out 2
    go_wp2
    go_ret
    exact ⟨by first | rfl | (simp [errW_none, errW_some] <;> rfl) | (simp [*, errW_none, errW_some] <;> rfl), by repeat (first | (with_reducible first | exact HB.out | apply below_alloc | apply pw_below_drewN | apply below_drew1 | refine below_set ?_ GE377.out) | exact HB.out)⟩

end Go.Proofs.YtoilhnmdemnknaaDoor.XFeed

-- Written by wip/xprint.py of this repo, over the kit's print.py: out of the translation; the oracles in it are by hand. Not trusted: Lean checks it.
namespace Go.Proofs.YtoilhnmdemnknaaDoor.XFeed
open Go.RowKit Go.Proofs.YtoilhnmdemnknaaDoorW.PrintWords Go.Proofs.YtoilhnmdemnknaaDoorW.PrintLast Go.Proofs.YtoilhnmdemnknaaDoorW.PrintMore
attribute [local go_sem] max2_int min2_int max_two min_two max_three min_three max_four min_four   -- for this text's walks alone
set_option linter.unusedVariables false
set_option linter.unusedSimpArgs false

/-! ### dropperref05_Fewest: function 27 -/
mutual
def dropperref05_Fewest.l0 : Nat → Int → Int → Int → Int → Int → List (S69) → List (S71) → Option (Int)
 | 0, _, _, _, _, _, _, _ => none
 | k + 1, x1, x2, x7, x8, x380000, x380001, x380002 => if x8 < (shl .i64 1 (x380001.length : Int)) then (if (Go.bits .and .i64 x8 x1) = x8 then ((dropperref05_live.f k x380000 x380001 x380002 (wrap64 (x1 - x8))).bind fun t380 => (if 0 ≤ x2 then (if x2 < (t380.length : Int) then (dropperref05_Fewest.j1 k x1 x2 x7 x8 ((rd t380 x2) != 0) x380000 x380001 x380002) else (none)) else (none))) else (dropperref05_Fewest.j1 k x1 x2 x7 x8 true x380000 x380001 x380002)) else (some x7)
def dropperref05_Fewest.j1 : Nat → Int → Int → Int → Int → Bool → Int → List (S69) → List (S71) → Option (Int)
 | 0, _, _, _, _, _, _, _, _ => none
 | k + 1, x1, x2, x7, x8, x37, x380000, x380001, x380002 => if x37 = true then (dropperref05_Fewest.l0 k x1 x2 x7 (wrap64 (x8 + 1)) x380000 x380001 x380002) else (dropperref05_Fewest.l1 k x1 x2 x7 x8 0 0 x380000 x380001 x380002)
def dropperref05_Fewest.l1 : Nat → Int → Int → Int → Int → Int → Int → Int → List (S69) → List (S71) → Option (Int)
 | 0, _, _, _, _, _, _, _, _, _ => none
 | k + 1, x1, x2, x7, x8, x9, x10, x380000, x380001, x380002 => if x10 < (x380001.length : Int) then ((dropperref05_closed.f x8 x10).bind fun t384 => (if t384 = true then (dropperref05_Fewest.l1 k x1 x2 x7 x8 (wrap64 (x9 + 1)) (wrap64 (x10 + 1)) x380000 x380001 x380002) else (dropperref05_Fewest.l1 k x1 x2 x7 x8 x9 (wrap64 (x10 + 1)) x380000 x380001 x380002))) else (dropperref05_Fewest.l0 k x1 x2 (mn x7 x9) (wrap64 (x8 + 1)) x380000 x380001 x380002)
end
def dropperref05_Fewest.f (k : Nat) (a0_0 : Int) (l0_1 : List (S69)) (l0_2 : List (S71)) (a1 : Int) (a2 : Int) : Option (Int) := dropperref05_Fewest.l0 k a1 a2 (l0_1.length : Int) 0 a0_0 l0_1 l0_2
theorem dropperref05_Fewest.mono_l : ∀ k, (∀ y0 y1 y2 y3 y4 y5 y6, LeO (dropperref05_Fewest.l0 k y0 y1 y2 y3 y4 y5 y6) (dropperref05_Fewest.l0 (k + 1) y0 y1 y2 y3 y4 y5 y6)) ∧ (∀ y0 y1 y2 y3 y4 y5 y6 y7, LeO (dropperref05_Fewest.j1 k y0 y1 y2 y3 y4 y5 y6 y7) (dropperref05_Fewest.j1 (k + 1) y0 y1 y2 y3 y4 y5 y6 y7)) ∧ (∀ y0 y1 y2 y3 y4 y5 y6 y7 y8, LeO (dropperref05_Fewest.l1 k y0 y1 y2 y3 y4 y5 y6 y7 y8) (dropperref05_Fewest.l1 (k + 1) y0 y1 y2 y3 y4 y5 y6 y7 y8))
 | 0 => ⟨fun _ _ _ _ _ _ _ r h => by simp [dropperref05_Fewest.l0] at h, fun _ _ _ _ _ _ _ _ r h => by simp [dropperref05_Fewest.j1] at h, fun _ _ _ _ _ _ _ _ _ r h => by simp [dropperref05_Fewest.l1] at h⟩
 | k + 1 => by
  obtain ⟨ih0, ih1, ih2⟩ := dropperref05_Fewest.mono_l k
  refine ⟨?_, ?_, ?_⟩
  ·
   intro y0 y1 y2 y3 y4 y5 y6
   unfold dropperref05_Fewest.l0
   repeat' first
   | (with_reducible exact ih0 _ _ _ _ _ _ _)
   | (with_reducible exact ih1 _ _ _ _ _ _ _ _)
   | (with_reducible exact ih2 _ _ _ _ _ _ _ _ _)
   | (with_reducible exact dropperref05_live.mono _ _ _ _ _)
   | (with_reducible exact LeO.refl _)
   | (with_reducible exact LeO.none _)
   | (with_reducible refine LeO.ite ?_ ?_)
   | (with_reducible refine LeO.bind ?_ (fun _ => ?_))
   | exact ih0 _ _ _ _ _ _ _
   | exact ih1 _ _ _ _ _ _ _ _
   | exact ih2 _ _ _ _ _ _ _ _ _
   | exact dropperref05_live.mono _ _ _ _ _
   | exact LeO.none _
   | refine LeO.ite ?_ ?_
   | refine LeO.bind ?_ (fun _ => ?_)
  ·
   intro y0 y1 y2 y3 y4 y5 y6 y7
   unfold dropperref05_Fewest.j1
   repeat' first
   | (with_reducible exact ih0 _ _ _ _ _ _ _)
   | (with_reducible exact ih1 _ _ _ _ _ _ _ _)
   | (with_reducible exact ih2 _ _ _ _ _ _ _ _ _)
   | (with_reducible exact dropperref05_live.mono _ _ _ _ _)
   | (with_reducible exact LeO.refl _)
   | (with_reducible exact LeO.none _)
   | (with_reducible refine LeO.ite ?_ ?_)
   | (with_reducible refine LeO.bind ?_ (fun _ => ?_))
   | exact ih0 _ _ _ _ _ _ _
   | exact ih1 _ _ _ _ _ _ _ _
   | exact ih2 _ _ _ _ _ _ _ _ _
   | exact dropperref05_live.mono _ _ _ _ _
   | exact LeO.none _
   | refine LeO.ite ?_ ?_
   | refine LeO.bind ?_ (fun _ => ?_)
  ·
   intro y0 y1 y2 y3 y4 y5 y6 y7 y8
   unfold dropperref05_Fewest.l1
   repeat' first
   | (with_reducible exact ih0 _ _ _ _ _ _ _)
   | (with_reducible exact ih1 _ _ _ _ _ _ _ _)
   | (with_reducible exact ih2 _ _ _ _ _ _ _ _ _)
   | (with_reducible exact dropperref05_live.mono _ _ _ _ _)
   | (with_reducible exact LeO.refl _)
   | (with_reducible exact LeO.none _)
   | (with_reducible refine LeO.ite ?_ ?_)
   | (with_reducible refine LeO.bind ?_ (fun _ => ?_))
   | exact ih0 _ _ _ _ _ _ _
   | exact ih1 _ _ _ _ _ _ _ _
   | exact ih2 _ _ _ _ _ _ _ _ _
   | exact dropperref05_live.mono _ _ _ _ _
   | exact LeO.none _
   | refine LeO.ite ?_ ?_
   | refine LeO.bind ?_ (fun _ => ?_)
theorem dropperref05_Fewest.mono : ∀ a0 a1 a2 a3 a4 k, LeO (dropperref05_Fewest.f k a0 a1 a2 a3 a4) (dropperref05_Fewest.f (k + 1) a0 a1 a2 a3 a4) := by
 intro a0 a1 a2 a3 a4 k
 obtain ⟨ih0, ih1, ih2⟩ := dropperref05_Fewest.mono_l k
 unfold dropperref05_Fewest.f
 repeat' first
   | (with_reducible exact ih0 _ _ _ _ _ _ _)
   | (with_reducible exact ih1 _ _ _ _ _ _ _ _)
   | (with_reducible exact ih2 _ _ _ _ _ _ _ _ _)
   | (with_reducible exact dropperref05_live.mono _ _ _ _ _)
   | (with_reducible exact LeO.refl _)
   | (with_reducible exact LeO.none _)
   | (with_reducible refine LeO.ite ?_ ?_)
   | (with_reducible refine LeO.bind ?_ (fun _ => ?_))
   | exact ih0 _ _ _ _ _ _ _
   | exact ih1 _ _ _ _ _ _ _ _
   | exact ih2 _ _ _ _ _ _ _ _ _
   | exact dropperref05_live.mono _ _ _ _ _
   | exact LeO.none _
   | refine LeO.ite ?_ ?_
   | refine LeO.bind ?_ (fun _ => ?_)
set_option maxHeartbeats 8000000 in
set_option maxRecDepth 100000 in
theorem dropperref05_Fewest.calls (k : Nat) (a0_0 : Int) (A0_1 : Option Addr) (c0_1 : Nat) (l0_1 : List (S69)) (A0_2 : Option Addr) (c0_2 : Nat) (l0_2 : List (S71)) (a1 : Int) (a2 : Int) (r : Int) (w : World) (hr0_1 : Kd.C k69 w A0_1 l0_1.length l0_1) (hc0_1 : l0_1.length ≤ c0_1) (hr0_2 : Kd.C k71 w A0_2 l0_2.length l0_2) (hc0_2 : l0_2.length ≤ c0_2) (h : dropperref05_Fewest.f k a0_0 l0_1 l0_2 a1 a2 = some r) :
  Calls Tryd.prog 27 #[.agg #[.int .i64 a0_0, .slice A0_1 l0_1.length c0_1, .slice A0_2 l0_2.length c0_2], .int .i64 a1, .int .i64 a2] w fun e w' => e = .returned (.int .i64 r) ∧ Below w.heap.size w w' := by
 have hu25 := Tryd.underlying25
 have HR0_1 := Aside0.mk hr0_1
 have HC0_1 := Aside0.mk hc0_1
 clear hr0_1 hc0_1
 have HR0_2 := Aside0.mk hr0_2
 have HC0_2 := Aside0.mk hc0_2
 clear hr0_2 hc0_2
 have HB := Aside0.mk (Below.refl w.heap.size w)
 have H : (dropperref05_Fewest.l0 k a1 a2 (l0_1.length : Int) 0 a0_0 l0_1 l0_2) = some r := h
 clear h
 have H' := Aside0.mk H
 clear H
 go_enter Tryd.func27, Tryd.ntmps27
 go_wp2_with (first | ((with_reducible refine gate_dst (N := 3) rfl ?_); refine box_event ?hg (N := 3) ?hd (cs := #[.int .i64 a0_0, .slice A0_1 l0_1.length c0_1, .slice A0_2 l0_2.length c0_2]) (t := 25) ?hr ?_; (case hd => rfl); (case hg => rfl); (case hr => first | (go_simp; done) | (go_simp; rfl)); intro gb379 hg w4 hbox hb; have n0_ := Aside0.mk (below_step bel hb); have n1_ := Aside0.mk (hbox); have n2_ := Aside0.mk ((by rw [hg]; exact (below_size bel) : w.heap.size ≤ gb379)); have n3_ := n2_; clear HB; have HB := n0_; have BK379 := n1_; have GW379 := n2_; have GE379 := n3_; clear n0_ n1_ n2_ n3_; clear hb hbox hg; have hcz5_0 := blkc BK379.out 0 (.int .i64 a0_0) rfl; have hcz5_1 := blkc BK379.out 1 (.slice A0_1 l0_1.length c0_1) rfl; have hcz5_2 := blkc BK379.out 2 (.slice A0_2 l0_2.length c0_2) rfl; have hfz5_0 := blk_frozen BK379.out 0; have hfz5_1 := blk_frozen BK379.out 1; have hfz5_2 := blk_frozen BK379.out 2))
 go_loopg [7, 8] k (fun kq v7 v8 w' => ∃ (x7_1 : Int) (x8_1 : Int), v7 = .int .i64 x7_1 ∧ v8 = .int .i64 x8_1 ∧ Aside0 (dropperref05_Fewest.l0 kq a1 a2 x7_1 x8_1 a0_0 l0_1 l0_2 = some r) ∧ Aside0 (kq ≤ k) ∧ Aside0 (w'.heap[gb379]? = some (.cells #[.int .i64 a0_0, (.slice A0_1 l0_1.length c0_1), (.slice A0_2 l0_2.length c0_2)] 25 (0, 0))) ∧ Aside0 (Below w.heap.size w w'))
 case atStart => exact ⟨((l0_1.length : Int)), (0), rsz, rsz, H', ⟨Nat.le_refl _⟩, ⟨by (with_reducible repeat (first | refine blk_drewN ?_ _ | refine blk_drew ?_ | refine blk_alloc ?_ _)); exact BK379.out⟩, ⟨by repeat (first | (with_reducible first | exact HB.out | apply below_alloc | apply pw_below_drewN | apply below_drew1 | refine below_set ?_ GE379.out) | exact HB.out)⟩⟩
 case round =>
  clear H'
  try clear c2
  try clear p2
  try clear hcz5_0
  try clear hcz5_1
  try clear hcz5_2
  try clear hfz5_0
  try clear hfz5_1
  try clear hfz5_2
  obtain ⟨x7_1, x8_1, rfl, rfl, HA, HK1, BK379, HB⟩ := hrel
  cases gk with
  | zero => exact absurd HA.out (by simp [dropperref05_Fewest.l0])
  | succ k1 =>
   have H := HA.out
   clear HA
   simp only [dropperref05_Fewest.l0] at H
   obtain ⟨ji6, hji6⟩ : ∃ j_ : Int, (shl .i64 1 (l0_1.length : Int)) = j_ := ⟨_, rfl⟩
   replace H : (if x8_1 < (ji6) then (if (Go.bits .and .i64 x8_1 a1) = x8_1 then ((dropperref05_live.f k1 a0_0 l0_1 l0_2 (wrap64 (a1 - x8_1))).bind fun t380 => (if 0 ≤ a2 then (if a2 < (t380.length : Int) then (dropperref05_Fewest.j1 k1 a1 a2 x7_1 x8_1 ((rd t380 a2) != 0) a0_0 l0_1 l0_2) else (none)) else (none))) else (dropperref05_Fewest.j1 k1 a1 a2 x7_1 x8_1 true a0_0 l0_1 l0_2)) else (some x7_1)) = some r := by first | (rw [hji6] at H; exact H) | (simp only [hji6] at H ⊢; exact H)
   have hji6_ : (IntKind.i64.wrap (1 * 2 ^ min (l0_1.length : Int).toNat 64)) = ji6 := hji6
   have hji6z : (l0_1.length : Int) ≤ 64 → (IntKind.i64.wrap (1 * 2 ^ (l0_1.length : Int).toNat)) = ji6 := shl_small hji6
   have hji6p : (IntKind.i64.wrap (1 * 2 ^ min l0_1.length 64)) = ji6 := hji6_
   have hji6q : (l0_1.length : Int) ≤ 64 → (IntKind.i64.wrap (1 * 2 ^ l0_1.length)) = ji6 := hji6z
   have hji6r : (IntKind.i64.wrap (2 ^ min l0_1.length 64)) = ji6 := by have h_ := hji6p; rw [Int.one_mul] at h_; exact h_
   have hji6s : (l0_1.length : Int) ≤ 64 → (IntKind.i64.wrap (2 ^ l0_1.length)) = ji6 := fun hle_ => by have h_ := hji6q hle_; rw [Int.one_mul] at h_; exact h_
   have hji6u : (IntKind.i64.wrap (2 ^ min (l0_1.length : Int).toNat 64)) = ji6 := by have h_ := hji6_; rw [Int.one_mul] at h_; exact h_
   have hji6v : (l0_1.length : Int) ≤ 64 → (IntKind.i64.wrap (2 ^ (l0_1.length : Int).toNat)) = ji6 := fun hle_ => by have h_ := hji6z hle_; rw [Int.one_mul] at h_; exact h_
   have hji6y : (wrap64 (1 * 2 ^ min (l0_1.length : Int).toNat 64)) = ji6 := (i64_w _).symm.trans hji6_
   have hji6x : (l0_1.length : Int) ≤ 64 → (wrap64 (1 * 2 ^ (l0_1.length : Int).toNat)) = ji6 := fun h_ => (i64_w _).symm.trans (hji6z h_)
   by_cases c7 : x8_1 < (ji6)
   ·
    rw [if_pos c7] at H
    have c7b0 : decide (x8_1 < (ji6)) = true := decide_eq_true c7
    clear c7
    have HC8 := Aside0.mk H
    clear H
    have hcz9_0 := blkc BK379.out 0 (.int .i64 a0_0) rfl
    have hcz9_1 := blkc BK379.out 1 (.slice A0_1 l0_1.length c0_1) rfl
    have hcz9_2 := blkc BK379.out 2 (.slice A0_2 l0_2.length c0_2) rfl
    have hfz9_0 := blk_frozen BK379.out 0
    have hfz9_1 := blk_frozen BK379.out 1
    have hfz9_2 := blk_frozen BK379.out 2
    go_upto_region 5 with (fail)
    go_cut [37] (fun v37 wc => ∃ (kq : Nat) (x37_7 : Bool), v37 = .bool x37_7 ∧ Aside0 (dropperref05_Fewest.j1 kq a1 a2 x7_1 x8_1 x37_7 a0_0 l0_1 l0_2 = some r) ∧ Aside0 (kq ≤ k1) ∧ Aside0 (wc.heap[gb379]? = some (.cells #[.int .i64 a0_0, (.slice A0_1 l0_1.length c0_1), (.slice A0_2 l0_2.length c0_2)] 25 (0, 0))) ∧ Aside0 (Below w.heap.size w wc))
    case first =>
     have H := HC8.out
     clear HC8
     by_cases c10 : (Go.bits .and .i64 x8_1 a1) = x8_1
     ·
      rw [if_pos c10] at H
      have c10b0 : ((Go.bits .and .i64 x8_1 a1) == x8_1) = true := beq_iff_eq.mpr c10
      have c10b1 : ((Go.bits .and .i64 x8_1 a1) != x8_1) = false := bne_eq_false_iff_eq.mpr c10
      clear c10
      (first | rw [c10b0] | (simp only [i64_w, i32_w]; rw [c10b0]) | skip)
      replace H := Option.bind_eq_some_iff.mp H
      obtain ⟨t380, A110, H⟩ := H
      replace H : (if 0 ≤ a2 then (if a2 < (t380.length : Int) then (dropperref05_Fewest.j1 k1 a1 a2 x7_1 x8_1 ((rd t380 a2) != 0) a0_0 l0_1 l0_2) else (none)) else (none)) = some r := H
      have A11 := Aside0.mk A110
      clear A110
      by_cases c12 : 0 ≤ a2
      ·
       rw [if_pos c12] at H
       have c12b0 : decide (0 ≤ a2) = true := decide_eq_true c12
       clear c12
       by_cases c13 : a2 < (t380.length : Int)
       ·
        rw [if_pos c13] at H
        have c13b0 : decide (a2 < (t380.length : Int)) = true := decide_eq_true c13
        clear c13
        have H' := Aside0.mk H
        clear H
        have hcz14_0 := blkc BK379.out 0 (.int .i64 a0_0) rfl
        have hcz14_1 := blkc BK379.out 1 (.slice A0_1 l0_1.length c0_1) rfl
        have hcz14_2 := blkc BK379.out 2 (.slice A0_2 l0_2.length c0_2) rfl
        have hfz14_0 := blk_frozen BK379.out 0
        have hfz14_1 := blk_frozen BK379.out 1
        have hfz14_2 := blk_frozen BK379.out 2
        go_wp2_with (first | (go_at_call 49; (with_reducible refine (dropperref05_live.calls k1 a0_0 _ _ l0_1 _ _ l0_2 (wrap64 (a1 - x8_1)) t380 _ ?side1 ?side2 ?side3 ?side4 A11.out).mono ?_); (case side1 => exact cbz HR0_1); (case side2 => exact HC0_1.out); (case side3 => exact cbz HR0_2); (case side4 => exact HC0_2.out); rintro e w15 ⟨v381, rfl, ho0, hb⟩; have n0_ := Aside0.mk (Kd.R_lower ho0 (below_size bel)); have n1_ := Aside0.mk (blk_below (g := gb379) blkz hb); have n2_ := Aside0.mk (below_step bel hb); clear BK379; clear HB; have HO382 := n0_; have BK379 := n1_; have HB := n2_; clear n0_ n1_ n2_; (try clear hb); (try clear hb2); (try clear hk); (try clear hi); (try clear ho0); obtain ⟨Ao16, co16, eo16⟩ := Kd.R_slice HO382.out; subst eo16; have p383 : 0 ≤ (a2 : Int) := of_decide_eq_true asz; have q383 : a2 < (t380.length : Int) := of_decide_eq_true asz; obtain ⟨ad383, e383, hx383_0⟩ := Kd.at_int (Kd.R_reads' HO382.out).2.2 a2 p383 q383; cases e383; replace p383 := eq_true p383; replace q383 := eq_true q383))
        go_meet
        case rel => exact ⟨_, (((rd t380 a2) != 0)), rsz, H', ⟨by have := HK1.out; first | omega | exact Nat.le_refl _⟩, ⟨by (with_reducible repeat (first | refine blk_drewN ?_ _ | refine blk_drew ?_ | refine blk_alloc ?_ _)); exact BK379.out⟩, ⟨by repeat (first | (with_reducible first | exact HB.out | apply below_alloc | apply pw_below_drewN | apply below_drew1 | refine below_set ?_ GE379.out) | exact HB.out)⟩⟩
       ·
        rw [if_neg c13] at H
        exact absurd H (by simp)
      ·
       rw [if_neg c12] at H
       exact absurd H (by simp)
     ·
      rw [if_neg c10] at H
      have c10b0 : ((Go.bits .and .i64 x8_1 a1) == x8_1) = false := beq_eq_false_iff_ne.mpr c10
      have c10b1 : ((Go.bits .and .i64 x8_1 a1) != x8_1) = true := bne_iff_ne.mpr c10
      (first | rw [c10b0] | (simp only [i64_w, i32_w]; rw [c10b0]) | skip)
      have H' := Aside0.mk H
      clear H
      go_wp2
      go_meet
      case rel => exact ⟨_, (true), rsz, H', ⟨by have := HK1.out; first | omega | exact Nat.le_refl _⟩, ⟨by (with_reducible repeat (first | refine blk_drewN ?_ _ | refine blk_drew ?_ | refine blk_alloc ?_ _)); exact BK379.out⟩, ⟨by repeat (first | (with_reducible first | exact HB.out | apply below_alloc | apply pw_below_drewN | apply below_drew1 | refine below_set ?_ GE379.out) | exact HB.out)⟩⟩
    case rest =>
     clear HC8
     try clear c1
     try clear c2
     try clear p2
     try clear p3
     try clear q3
     try clear hx3
     try clear p6
     try clear c7
     try clear c7b0
     try clear c10
     try clear c10b0
     try clear c10b1
     try clear c12
     try clear c12b0
     try clear c13
     try clear c13b0
     try clear hcz14_0
     try clear hcz14_1
     try clear hcz14_2
     try clear hcz5_0
     try clear hcz5_1
     try clear hcz5_2
     try clear hcz9_0
     try clear hcz9_1
     try clear hcz9_2
     try clear hfz14_0
     try clear hfz14_1
     try clear hfz14_2
     try clear hfz5_0
     try clear hfz5_1
     try clear hfz5_2
     try clear hfz9_0
     try clear hfz9_1
     try clear hfz9_2
     try clear hx383_0
     try clear p2
     try clear p383
     try clear q383
     obtain ⟨kq, x37_7, rfl, HA, HJ7, BK379, HB⟩ := hcut
     cases kq with
     | zero => exact absurd HA.out (by simp [dropperref05_Fewest.j1])
     | succ kj7 =>
      have H := HA.out
      clear HA
      simp only [dropperref05_Fewest.j1] at H
      by_cases c17 : x37_7 = true
      ·
       subst c17
       have H1 : (dropperref05_Fewest.l0 kj7 a1 a2 x7_1 (wrap64 (x8_1 + 1)) a0_0 l0_1 l0_2) = some r := by rw [if_pos rfl] at H; exact H
       clear H
       have H := H1
       clear H1
       have H' := Aside0.mk H
       clear H
       go_wp2
       go_roundg kj7
       case measure => have := HK1.out; have := HJ7.out; omega
       case rel => exact ⟨(x7_1), (wrap64 (x8_1 + 1)), rsz, rsz, H', ⟨by have := HK1.out; have := HJ7.out; omega⟩, ⟨by (with_reducible repeat (first | refine blk_drewN ?_ _ | refine blk_drew ?_ | refine blk_alloc ?_ _)); exact BK379.out⟩, ⟨by repeat (first | (with_reducible first | exact HB.out | apply below_alloc | apply pw_below_drewN | apply below_drew1 | refine below_set ?_ GE379.out) | exact HB.out)⟩⟩
      ·
       replace c17 := Bool.eq_false_iff.mpr c17
       subst c17
       have H1 : (dropperref05_Fewest.l1 kj7 a1 a2 x7_1 x8_1 0 0 a0_0 l0_1 l0_2) = some r := by rw [if_neg (show ¬ (false = true) by decide)] at H; exact H
       clear H
       have H := H1
       clear H1
       have H' := Aside0.mk H
       clear H
       go_wp2
       go_loopg [9, 10] kj7 (fun kq v9 v10 w' => ∃ (x9_3 : Int) (x10_3 : Int), v9 = .int .i64 x9_3 ∧ v10 = .int .i64 x10_3 ∧ Aside0 (dropperref05_Fewest.l1 kq a1 a2 x7_1 x8_1 x9_3 x10_3 a0_0 l0_1 l0_2 = some r) ∧ Aside0 (kq ≤ kj7) ∧ Aside0 (w'.heap[gb379]? = some (.cells #[.int .i64 a0_0, (.slice A0_1 l0_1.length c0_1), (.slice A0_2 l0_2.length c0_2)] 25 (0, 0))) ∧ Aside0 (Below w.heap.size w w'))
       case atStart => exact ⟨(0), (0), rsz, rsz, H', ⟨Nat.le_refl _⟩, ⟨by (with_reducible repeat (first | refine blk_drewN ?_ _ | refine blk_drew ?_ | refine blk_alloc ?_ _)); exact BK379.out⟩, ⟨by repeat (first | (with_reducible first | exact HB.out | apply below_alloc | apply pw_below_drewN | apply below_drew1 | refine below_set ?_ GE379.out) | exact HB.out)⟩⟩
       case round =>
        clear H'
        try clear c1
        try clear c2
        try clear p2
        try clear p3
        try clear q3
        try clear hx3
        try clear p6
        try clear c7
        try clear c7b0
        try clear c10
        try clear c10b0
        try clear c10b1
        try clear c12
        try clear c12b0
        try clear c13
        try clear c13b0
        try clear c17
        try clear hcz14_0
        try clear hcz14_1
        try clear hcz14_2
        try clear hcz5_0
        try clear hcz5_1
        try clear hcz5_2
        try clear hcz9_0
        try clear hcz9_1
        try clear hcz9_2
        try clear hfz14_0
        try clear hfz14_1
        try clear hfz14_2
        try clear hfz5_0
        try clear hfz5_1
        try clear hfz5_2
        try clear hfz9_0
        try clear hfz9_1
        try clear hfz9_2
        try clear hx383_0
        try clear p2
        try clear p3
        try clear p383
        try clear p6
        try clear q3
        try clear q383
        obtain ⟨x9_3, x10_3, rfl, rfl, HA, HK3, BK379, HB⟩ := hrel
        cases gk with
        | zero => exact absurd HA.out (by simp [dropperref05_Fewest.l1])
        | succ k3 =>
         have H := HA.out
         clear HA
         simp only [dropperref05_Fewest.l1] at H
         by_cases c18 : x10_3 < (l0_1.length : Int)
         ·
          rw [if_pos c18] at H
          have c18b0 : decide (x10_3 < (l0_1.length : Int)) = true := decide_eq_true c18
          clear c18
          replace H := Option.bind_eq_some_iff.mp H
          obtain ⟨t384, A190, H⟩ := H
          replace H : (if t384 = true then (dropperref05_Fewest.l1 k3 a1 a2 x7_1 x8_1 (wrap64 (x9_3 + 1)) (wrap64 (x10_3 + 1)) a0_0 l0_1 l0_2) else (dropperref05_Fewest.l1 k3 a1 a2 x7_1 x8_1 x9_3 (wrap64 (x10_3 + 1)) a0_0 l0_1 l0_2)) = some r := H
          have A19 := Aside0.mk A190
          clear A190
          by_cases c20 : t384 = true
          ·
           subst c20
           have H1 : (dropperref05_Fewest.l1 k3 a1 a2 x7_1 x8_1 (wrap64 (x9_3 + 1)) (wrap64 (x10_3 + 1)) a0_0 l0_1 l0_2) = some r := by rw [if_pos rfl] at H; exact H
           clear H
           have H := H1
           clear H1
           have H' := Aside0.mk H
           clear H
           have hcz21_0 := blkc BK379.out 0 (.int .i64 a0_0) rfl
           have hcz21_1 := blkc BK379.out 1 (.slice A0_1 l0_1.length c0_1) rfl
           have hcz21_2 := blkc BK379.out 2 (.slice A0_2 l0_2.length c0_2) rfl
           have hfz21_0 := blk_frozen BK379.out 0
           have hfz21_1 := blk_frozen BK379.out 1
           have hfz21_2 := blk_frozen BK379.out 2
           go_wp2_with (first | ((with_reducible refine gate_callee (f := 61) rfl ?_); refine goesL_ (some 47) rfl rfl Tryd.func61 (by kernel_rfl) rfl #[.int .i64 x8_1, .int .i64 x10_3] rfl mapz ?_; (with_reducible refine (dropperref05_closed.calls x8_1 x10_3 true _ A19.out).mono ?_); rintro e w' ⟨rfl, ⟨nd, rfl⟩⟩; refine ⟨_, rfl, ?_⟩))
           go_roundg k3
           case measure => have := HK1.out; have := HJ7.out; have := HK3.out; omega
           case rel => exact ⟨(wrap64 (x9_3 + 1)), (wrap64 (x10_3 + 1)), rsz, rsz, H', ⟨by have := HK1.out; have := HJ7.out; have := HK3.out; omega⟩, ⟨by (with_reducible repeat (first | refine blk_drewN ?_ _ | refine blk_drew ?_ | refine blk_alloc ?_ _)); exact BK379.out⟩, ⟨by repeat (first | (with_reducible first | exact HB.out | apply below_alloc | apply pw_below_drewN | apply below_drew1 | refine below_set ?_ GE379.out) | exact HB.out)⟩⟩
          ·
           replace c20 := Bool.eq_false_iff.mpr c20
           subst c20
           have H1 : (dropperref05_Fewest.l1 k3 a1 a2 x7_1 x8_1 x9_3 (wrap64 (x10_3 + 1)) a0_0 l0_1 l0_2) = some r := by rw [if_neg (show ¬ (false = true) by decide)] at H; exact H
           clear H
           have H := H1
           clear H1
           have H' := Aside0.mk H
           clear H
           have hcz22_0 := blkc BK379.out 0 (.int .i64 a0_0) rfl
           have hcz22_1 := blkc BK379.out 1 (.slice A0_1 l0_1.length c0_1) rfl
           have hcz22_2 := blkc BK379.out 2 (.slice A0_2 l0_2.length c0_2) rfl
           have hfz22_0 := blk_frozen BK379.out 0
           have hfz22_1 := blk_frozen BK379.out 1
           have hfz22_2 := blk_frozen BK379.out 2
           go_wp2_with (first | ((with_reducible refine gate_callee (f := 61) rfl ?_); refine goesL_ (some 47) rfl rfl Tryd.func61 (by kernel_rfl) rfl #[.int .i64 x8_1, .int .i64 x10_3] rfl mapz ?_; (with_reducible refine (dropperref05_closed.calls x8_1 x10_3 false _ A19.out).mono ?_); rintro e w' ⟨rfl, ⟨nd, rfl⟩⟩; refine ⟨_, rfl, ?_⟩))
           go_roundg k3
           case measure => have := HK1.out; have := HJ7.out; have := HK3.out; omega
           case rel => exact ⟨(x9_3), (wrap64 (x10_3 + 1)), rsz, rsz, H', ⟨by have := HK1.out; have := HJ7.out; have := HK3.out; omega⟩, ⟨by (with_reducible repeat (first | refine blk_drewN ?_ _ | refine blk_drew ?_ | refine blk_alloc ?_ _)); exact BK379.out⟩, ⟨by repeat (first | (with_reducible first | exact HB.out | apply below_alloc | apply pw_below_drewN | apply below_drew1 | refine below_set ?_ GE379.out) | exact HB.out)⟩⟩
         ·
          rw [if_neg c18] at H
          have c18b0 : decide (x10_3 < (l0_1.length : Int)) = false := decide_eq_false c18
          clear c18
          obtain ⟨ji23, hji23⟩ : ∃ j_ : Int, (mn x7_1 x9_3) = j_ := ⟨_, rfl⟩
          replace H : (dropperref05_Fewest.l0 k3 a1 a2 ji23 (wrap64 (x8_1 + 1)) a0_0 l0_1 l0_2) = some r := by first | (rw [hji23] at H; exact H) | (simp only [hji23] at H ⊢; exact H)
          have hji23_ : (if x9_3 < x7_1 then x9_3 else x7_1) = ji23 := hji23
          have H' := Aside0.mk H
          clear H
          have hcz24_0 := blkc BK379.out 0 (.int .i64 a0_0) rfl
          have hcz24_1 := blkc BK379.out 1 (.slice A0_1 l0_1.length c0_1) rfl
          have hcz24_2 := blkc BK379.out 2 (.slice A0_2 l0_2.length c0_2) rfl
          have hfz24_0 := blk_frozen BK379.out 0
          have hfz24_1 := blk_frozen BK379.out 1
          have hfz24_2 := blk_frozen BK379.out 2
          go_wp2
          go_roundg k3
          case measure => have := HK1.out; have := HJ7.out; have := HK3.out; omega
          case rel => exact ⟨(ji23), (wrap64 (x8_1 + 1)), (by first | rfl | (simp; done) | (simp only [← hji23] <;> (first | rfl | simp)) | (simp [*]; done)), rsz, H', ⟨by have := HK1.out; have := HJ7.out; have := HK3.out; omega⟩, ⟨by (with_reducible repeat (first | refine blk_drewN ?_ _ | refine blk_drew ?_ | refine blk_alloc ?_ _)); exact BK379.out⟩, ⟨by repeat (first | (with_reducible first | exact HB.out | apply below_alloc | apply pw_below_drewN | apply below_drew1 | refine below_set ?_ GE379.out) | exact HB.out)⟩⟩
   ·
    rw [if_neg c7] at H
    have c7b0 : decide (x8_1 < (ji6)) = false := decide_eq_false c7
    clear c7
    obtain rfl := Option.some.inj H
    have hcz25_0 := blkc BK379.out 0 (.int .i64 a0_0) rfl
    have hcz25_1 := blkc BK379.out 1 (.slice A0_1 l0_1.length c0_1) rfl
    have hcz25_2 := blkc BK379.out 2 (.slice A0_2 l0_2.length c0_2) rfl
    have hfz25_0 := blk_frozen BK379.out 0
    have hfz25_1 := blk_frozen BK379.out 1
    have hfz25_2 := blk_frozen BK379.out 2
    go_wp2
    go_ret
    exact ⟨by first | rfl | (simp [errW_none, errW_some] <;> rfl) | (simp only [← hji6]; first | rfl | (simp [errW_none, errW_some] <;> rfl)) | (simp [*, errW_none, errW_some] <;> rfl), by repeat (first | (with_reducible first | exact HB.out | apply below_alloc | apply pw_below_drewN | apply below_drew1 | refine below_set ?_ GE379.out) | exact HB.out)⟩

end Go.Proofs.YtoilhnmdemnknaaDoor.XFeed

-- Written by wip/xprint.py of this repo, over the kit's print.py: out of the translation; the oracles in it are by hand. Not trusted: Lean checks it.
namespace Go.Proofs.YtoilhnmdemnknaaDoor.XFeed
open Go.RowKit Go.Proofs.YtoilhnmdemnknaaDoorW.PrintWords Go.Proofs.YtoilhnmdemnknaaDoorW.PrintLast Go.Proofs.YtoilhnmdemnknaaDoorW.PrintMore
attribute [local go_sem] max2_int min2_int max_two min_two max_three min_three max_four min_four   -- for this text's walks alone
set_option linter.unusedVariables false
set_option linter.unusedSimpArgs false

/-! ### dropperlaw05_FeedIsolates: function 5 -/
def dropperlaw05_FeedIsolates.j0 : Nat → Bool → Int → List (S69) → List (S71) → Int → Int → Option (Bool)
 | 0, _, _, _, _, _, _ => none
 | k + 1, x44, x386000, x386001, x386002, x387000, x387001 => if x44 = true then (none) else ((feed_Isolate.f k x386000 x386001 x386002 x387000 x387001).bind fun bt393 => ((dropperref05_Why.f k x386000 x386001 x386002 x387000 x387001).bind fun t397 => (if t397 = 0 then ((dropperref05_At.f k x386000 x386001 x386002 x387001).bind fun t399 => (if t399 = true then (if (bt393.1.length : Int) = 0 then (if bt393.2 = 5 then ((dropperlaw05_First.f k).bind fun t400 => (some t400)) else (none)) else (none)) else ((dropperref05_Isolates.f k x386000 x386001 x386002 x387000 x387001 bt393.1).bind fun bt401 => (if bt393.2 = 0 then (if bt401.2 = 0 then (if bt401.1 = true then ((dropperref05_Fewest.f k x386000 x386001 x386002 x387000 x387001).bind fun t403 => (if (bt393.1.length : Int) = t403 then ((dropperlaw05_First.f k).bind fun t404 => (some t404)) else (none))) else (none)) else (none)) else (none))))) else (if (bt393.1.length : Int) = 0 then (if bt393.2 = t397 then ((dropperlaw05_First.f k).bind fun t398 => (some t398)) else (none)) else (none)))))
def dropperlaw05_FeedIsolates.f (k : Nat) (a0_0 : Int) (l0_1 : List (S69)) (l0_2 : List (S71)) (a1_0 : Int) (a1_1 : Int) (l2 : List Int) : Option (Bool) := (dropperlaw05_Large.f a0_0 l0_1 l0_2 l2).bind fun t387 => (if t387 = true then ((dropperlaw05_First.f k).bind fun t388 => (some t388)) else ((feed_Isolates.f k a0_0 l0_1 l0_2 a1_0 a1_1 l2).bind fun bt389 => ((dropperref05_Isolates.f k a0_0 l0_1 l0_2 a1_0 a1_1 l2).bind fun bt391 => (if (bt389.1 != bt391.1) = true then (dropperlaw05_FeedIsolates.j0 k true a0_0 l0_1 l0_2 a1_0 a1_1) else (dropperlaw05_FeedIsolates.j0 k (bt389.2 != bt391.2) a0_0 l0_1 l0_2 a1_0 a1_1)))))
theorem dropperlaw05_FeedIsolates.mono_l : ∀ k, (∀ y0 y1 y2 y3 y4 y5, LeO (dropperlaw05_FeedIsolates.j0 k y0 y1 y2 y3 y4 y5) (dropperlaw05_FeedIsolates.j0 (k + 1) y0 y1 y2 y3 y4 y5))
 | 0 => fun _ _ _ _ _ _ r h => by simp [dropperlaw05_FeedIsolates.j0] at h
 | k + 1 => by
  have ih0 := dropperlaw05_FeedIsolates.mono_l k
  ·
   intro y0 y1 y2 y3 y4 y5
   unfold dropperlaw05_FeedIsolates.j0
   repeat' first
   | (with_reducible exact ih0 _ _ _ _ _ _)
   | (with_reducible exact dropperlaw05_First.mono _)
   | (with_reducible exact dropperref05_At.mono _ _ _ _ _)
   | (with_reducible exact dropperref05_Fewest.mono _ _ _ _ _ _)
   | (with_reducible exact dropperref05_Isolates.mono _ _ _ _ _ _ _)
   | (with_reducible exact dropperref05_Why.mono _ _ _ _ _ _)
   | (with_reducible exact feed_Isolate.mono _ _ _ _ _ _)
   | (with_reducible exact feed_Isolates.mono _ _ _ _ _ _ _)
   | (with_reducible exact LeO.refl _)
   | (with_reducible exact LeO.none _)
   | (with_reducible refine LeO.ite ?_ ?_)
   | (with_reducible refine LeO.bind ?_ (fun _ => ?_))
   | exact ih0 _ _ _ _ _ _
   | exact dropperlaw05_First.mono _
   | exact dropperref05_At.mono _ _ _ _ _
   | exact dropperref05_Fewest.mono _ _ _ _ _ _
   | exact dropperref05_Isolates.mono _ _ _ _ _ _ _
   | exact dropperref05_Why.mono _ _ _ _ _ _
   | exact feed_Isolate.mono _ _ _ _ _ _
   | exact feed_Isolates.mono _ _ _ _ _ _ _
   | exact LeO.none _
   | refine LeO.ite ?_ ?_
   | refine LeO.bind ?_ (fun _ => ?_)
theorem dropperlaw05_FeedIsolates.mono : ∀ a0 a1 a2 a3 a4 a5 k, LeO (dropperlaw05_FeedIsolates.f k a0 a1 a2 a3 a4 a5) (dropperlaw05_FeedIsolates.f (k + 1) a0 a1 a2 a3 a4 a5) := by
 intro a0 a1 a2 a3 a4 a5 k
 have ih0 := dropperlaw05_FeedIsolates.mono_l k
 unfold dropperlaw05_FeedIsolates.f
 repeat' first
   | (with_reducible exact ih0 _ _ _ _ _ _)
   | (with_reducible exact dropperlaw05_First.mono _)
   | (with_reducible exact dropperref05_At.mono _ _ _ _ _)
   | (with_reducible exact dropperref05_Fewest.mono _ _ _ _ _ _)
   | (with_reducible exact dropperref05_Isolates.mono _ _ _ _ _ _ _)
   | (with_reducible exact dropperref05_Why.mono _ _ _ _ _ _)
   | (with_reducible exact feed_Isolate.mono _ _ _ _ _ _)
   | (with_reducible exact feed_Isolates.mono _ _ _ _ _ _ _)
   | (with_reducible exact LeO.refl _)
   | (with_reducible exact LeO.none _)
   | (with_reducible refine LeO.ite ?_ ?_)
   | (with_reducible refine LeO.bind ?_ (fun _ => ?_))
   | exact ih0 _ _ _ _ _ _
   | exact dropperlaw05_First.mono _
   | exact dropperref05_At.mono _ _ _ _ _
   | exact dropperref05_Fewest.mono _ _ _ _ _ _
   | exact dropperref05_Isolates.mono _ _ _ _ _ _ _
   | exact dropperref05_Why.mono _ _ _ _ _ _
   | exact feed_Isolate.mono _ _ _ _ _ _
   | exact feed_Isolates.mono _ _ _ _ _ _ _
   | exact LeO.none _
   | refine LeO.ite ?_ ?_
   | refine LeO.bind ?_ (fun _ => ?_)
set_option maxHeartbeats 8000000 in
set_option maxRecDepth 100000 in
theorem dropperlaw05_FeedIsolates.calls (k : Nat) (a0_0 : Int) (A0_1 : Option Addr) (c0_1 : Nat) (l0_1 : List (S69)) (A0_2 : Option Addr) (c0_2 : Nat) (l0_2 : List (S71)) (a1_0 : Int) (a1_1 : Int) (A2 : Option Addr) (c2 : Nat) (l2 : List Int) (r : Bool) (w : World) (hr0_1 : Kd.C k69 w A0_1 l0_1.length l0_1) (hc0_1 : l0_1.length ≤ c0_1) (hr0_2 : Kd.C k71 w A0_2 l0_2.length l0_2) (hc0_2 : l0_2.length ≤ c0_2) (hr2 : Kd.C (Kd.int .i64) w A2 l2.length l2) (hc2 : l2.length ≤ c2) (hT : Tab.Tabs w) (h : dropperlaw05_FeedIsolates.f k a0_0 l0_1 l0_2 a1_0 a1_1 l2 = some r) :
  Calls Tryd.prog 5 #[.agg #[.int .i64 a0_0, .slice A0_1 l0_1.length c0_1, .slice A0_2 l0_2.length c0_2], .agg #[.int .i64 a1_0, .int .i64 a1_1], .slice A2 l2.length c2] w fun e w' => e = .returned (.bool r) ∧ Below w.heap.size w w' := by
 have HT := Aside0.mk hT
 clear hT
 have hu25 := Tryd.underlying25
 have hu43 := Tryd.underlying43
 have HR0_1 := Aside0.mk hr0_1
 have HC0_1 := Aside0.mk hc0_1
 clear hr0_1 hc0_1
 have HR0_2 := Aside0.mk hr0_2
 have HC0_2 := Aside0.mk hc0_2
 clear hr0_2 hc0_2
 have HR2 := Aside0.mk hr2
 have HC2 := Aside0.mk hc2
 clear hr2 hc2
 have HB := Aside0.mk (Below.refl w.heap.size w)
 have H : ((dropperlaw05_Large.f a0_0 l0_1 l0_2 l2).bind fun t387 => (if t387 = true then ((dropperlaw05_First.f k).bind fun t388 => (some t388)) else ((feed_Isolates.f k a0_0 l0_1 l0_2 a1_0 a1_1 l2).bind fun bt389 => ((dropperref05_Isolates.f k a0_0 l0_1 l0_2 a1_0 a1_1 l2).bind fun bt391 => (if (bt389.1 != bt391.1) = true then (dropperlaw05_FeedIsolates.j0 k true a0_0 l0_1 l0_2 a1_0 a1_1) else (dropperlaw05_FeedIsolates.j0 k (bt389.2 != bt391.2) a0_0 l0_1 l0_2 a1_0 a1_1)))))) = some r := h
 clear h
 replace H := Option.bind_eq_some_iff.mp H
 obtain ⟨t387, A40, H⟩ := H
 replace H : (if t387 = true then ((dropperlaw05_First.f k).bind fun t388 => (some t388)) else ((feed_Isolates.f k a0_0 l0_1 l0_2 a1_0 a1_1 l2).bind fun bt389 => ((dropperref05_Isolates.f k a0_0 l0_1 l0_2 a1_0 a1_1 l2).bind fun bt391 => (if (bt389.1 != bt391.1) = true then (dropperlaw05_FeedIsolates.j0 k true a0_0 l0_1 l0_2 a1_0 a1_1) else (dropperlaw05_FeedIsolates.j0 k (bt389.2 != bt391.2) a0_0 l0_1 l0_2 a1_0 a1_1))))) = some r := H
 have A4 := Aside0.mk A40
 clear A40
 by_cases c5 : t387 = true
 ·
  subst c5
  have H1 : ((dropperlaw05_First.f k).bind fun t388 => (some t388)) = some r := by rw [if_pos rfl] at H; exact H
  clear H
  have H := H1
  clear H1
  replace H := Option.bind_eq_some_iff.mp H
  obtain ⟨t388, A60, H⟩ := H
  replace H : (some t388) = some r := H
  have A6 := Aside0.mk A60
  clear A60
  obtain rfl := Option.some.inj H
  go_enter Tryd.func5, Tryd.ntmps5
  go_wp2_with (first | ((with_reducible refine gate_dst (N := 3) rfl ?_); (try (refine gate_guard (by rfl) ?_; dsimp only)); refine box_event ?hg (N := 3) ?hd (cs := #[.int .i64 a0_0, .slice A0_1 l0_1.length c0_1, .slice A0_2 l0_2.length c0_2]) (t := 25) ?hr ?_; (case hd => rfl); (case hg => rfl); (case hr => first | (go_simp; done) | (go_simp; rfl)); intro gb385 hg w7 hbox hb; have n0_ := Aside0.mk (below_step bel hb); have n1_ := Aside0.mk (hbox); have n2_ := Aside0.mk ((by rw [hg]; exact (below_size bel) : w.heap.size ≤ gb385)); have n3_ := n2_; clear HB; have HB := n0_; have BK385 := n1_; have GW385 := n2_; have GE385 := n3_; clear n0_ n1_ n2_ n3_; clear hb hbox hg) | ((with_reducible refine gate_dst (N := 4) rfl ?_); (try (refine gate_guard (by rfl) ?_; dsimp only)); refine box_event ?hg (N := 4) ?hd (cs := #[.int .i64 a1_0, .int .i64 a1_1]) (t := 43) ?hr ?_; (case hd => rfl); (case hg => rfl); (case hr => first | (go_simp; done) | (go_simp; rfl)); intro gb386 hg w8 hbox hb; have n0_ := Aside0.mk (blk_below (g := gb385) blkz hb); have n1_ := Aside0.mk (below_step bel hb); have n2_ := Aside0.mk (hbox); have n3_ := Aside0.mk ((by rw [hg]; exact (below_size bel) : w.heap.size ≤ gb386)); have n4_ := n3_; have n5_ := Aside0.mk ((by rw [hg]; exact Nat.ne_of_lt (blk_lt (g := gb385) (o := .cells #[.int .i64 a0_0, .slice A0_1 l0_1.length c0_1, .slice A0_2 l0_2.length c0_2] 25 (0, 0)) blkz) : gb385 ≠ gb386)); have n6_ := Aside0.mk ((by rw [hg]; exact Nat.ne_of_gt (blk_lt (g := gb385) (o := .cells #[.int .i64 a0_0, .slice A0_1 l0_1.length c0_1, .slice A0_2 l0_2.length c0_2] 25 (0, 0)) blkz) : gb386 ≠ gb385)); clear BK385; clear HB; have BK385 := n0_; have HB := n1_; have BK386 := n2_; have GW386 := n3_; have GE386 := n4_; have NB385_386 := n5_; have NB386_385 := n6_; clear n0_ n1_ n2_ n3_ n4_ n5_ n6_; clear hb hbox hg; have hnb9 := NB385_386.out; have hnc9 := NB386_385.out; have hcz10_0 := blkc BK385.out 0 (.int .i64 a0_0) rfl; have hcz10_1 := blkc BK385.out 1 (.slice A0_1 l0_1.length c0_1) rfl; have hcz10_2 := blkc BK385.out 2 (.slice A0_2 l0_2.length c0_2) rfl; have hfz10_0 := blk_frozen BK385.out 0; have hfz10_1 := blk_frozen BK385.out 1; have hfz10_2 := blk_frozen BK385.out 2) | ((with_reducible refine gate_callee (f := 11) rfl ?_); refine goesL_ (some 15) rfl rfl Tryd.func11 (by kernel_rfl) rfl #[.agg #[.int .i64 a0_0, .slice A0_1 l0_1.length c0_1, .slice A0_2 l0_2.length c0_2], .slice A2 l2.length c2] rfl mapz ?_; (with_reducible refine (dropperlaw05_Large.calls a0_0 _ _ l0_1 _ _ l0_2 _ _ l2 true _ ?side1 ?side2 ?side3 ?side4 ?side5 ?side6 A4.out).mono ?_); (case side1 => exact cbz HR0_1); (case side2 => exact HC0_1.out); (case side3 => exact cbz HR0_2); (case side4 => exact HC0_2.out); (case side5 => exact cbz HR2); (case side6 => exact HC2.out); rintro e w11 ⟨rfl, hb⟩; refine ⟨_, rfl, ?_⟩; have n0_ := Aside0.mk (blk_below (g := gb385) blkz hb); have n1_ := Aside0.mk (blk_below (g := gb386) blkz hb); have n2_ := Aside0.mk (below_step bel hb); clear BK385; clear BK386; clear HB; have BK385 := n0_; have BK386 := n1_; have HB := n2_; clear n0_ n1_ n2_; (try clear hb); (try clear hb2); (try clear hk); (try clear hi)) | ((with_reducible refine gate_callee (f := 12) rfl ?_); refine goesL_ (some 16) rfl rfl Tryd.func12 (by kernel_rfl) rfl #[] rfl mapz ?_; (with_reducible refine (dropperlaw05_First.calls k  t388 _ ?sideT A6.out).mono ?_); (case sideT => first | exact HT.out | exact Tab.Tabs.below HT.out bel | (with_reducible repeat (first | exact HT.out | apply Tab.Tabs.alloc | apply Tab.Tabs.drewN | apply Tab.Tabs.drew))); rintro e w12 ⟨rfl, hb⟩; refine ⟨_, rfl, ?_⟩; have n0_ := Aside0.mk (blk_below (g := gb385) blkz hb); have n1_ := Aside0.mk (blk_below (g := gb386) blkz hb); have n2_ := Aside0.mk (below_step bel hb); clear BK385; clear BK386; clear HB; have BK385 := n0_; have BK386 := n1_; have HB := n2_; clear n0_ n1_ n2_; (try clear hb); (try clear hb2); (try clear hk); (try clear hi)))
  go_ret
  exact ⟨by first | rfl | (simp [errW_none, errW_some] <;> rfl) | (simp [*, errW_none, errW_some] <;> rfl), by repeat (first | (with_reducible first | exact HB.out | apply below_alloc | apply pw_below_drewN | apply below_drew1 | refine below_set ?_ GE385.out | refine below_set ?_ GE386.out) | exact HB.out)⟩
 ·
  replace c5 := Bool.eq_false_iff.mpr c5
  subst c5
  have H1 : ((feed_Isolates.f k a0_0 l0_1 l0_2 a1_0 a1_1 l2).bind fun bt389 => ((dropperref05_Isolates.f k a0_0 l0_1 l0_2 a1_0 a1_1 l2).bind fun bt391 => (if (bt389.1 != bt391.1) = true then (dropperlaw05_FeedIsolates.j0 k true a0_0 l0_1 l0_2 a1_0 a1_1) else (dropperlaw05_FeedIsolates.j0 k (bt389.2 != bt391.2) a0_0 l0_1 l0_2 a1_0 a1_1)))) = some r := by rw [if_neg (show ¬ (false = true) by decide)] at H; exact H
  clear H
  have H := H1
  clear H1
  replace H := Option.bind_eq_some_iff.mp H
  obtain ⟨⟨t389, t390⟩, A130, H⟩ := H
  replace H : ((dropperref05_Isolates.f k a0_0 l0_1 l0_2 a1_0 a1_1 l2).bind fun bt391 => (if (t389 != bt391.1) = true then (dropperlaw05_FeedIsolates.j0 k true a0_0 l0_1 l0_2 a1_0 a1_1) else (dropperlaw05_FeedIsolates.j0 k (t390 != bt391.2) a0_0 l0_1 l0_2 a1_0 a1_1))) = some r := H
  have A13 := Aside0.mk A130
  clear A130
  replace H := Option.bind_eq_some_iff.mp H
  obtain ⟨⟨t391, t392⟩, A140, H⟩ := H
  replace H : (if (t389 != t391) = true then (dropperlaw05_FeedIsolates.j0 k true a0_0 l0_1 l0_2 a1_0 a1_1) else (dropperlaw05_FeedIsolates.j0 k (t390 != t392) a0_0 l0_1 l0_2 a1_0 a1_1)) = some r := H
  have A14 := Aside0.mk A140
  clear A140
  have HC15 := Aside0.mk H
  clear H
  go_enter Tryd.func5, Tryd.ntmps5
  go_upto_region 5 with (first | ((with_reducible refine gate_dst (N := 3) rfl ?_); (try (refine gate_guard (by rfl) ?_; dsimp only)); refine box_event ?hg (N := 3) ?hd (cs := #[.int .i64 a0_0, .slice A0_1 l0_1.length c0_1, .slice A0_2 l0_2.length c0_2]) (t := 25) ?hr ?_; (case hd => rfl); (case hg => rfl); (case hr => first | (go_simp; done) | (go_simp; rfl)); intro gb385 hg w16 hbox hb; have n0_ := Aside0.mk (below_step bel hb); have n1_ := Aside0.mk (hbox); have n2_ := Aside0.mk ((by rw [hg]; exact (below_size bel) : w.heap.size ≤ gb385)); have n3_ := n2_; clear HB; have HB := n0_; have BK385 := n1_; have GW385 := n2_; have GE385 := n3_; clear n0_ n1_ n2_ n3_; clear hb hbox hg) | ((with_reducible refine gate_dst (N := 4) rfl ?_); (try (refine gate_guard (by rfl) ?_; dsimp only)); refine box_event ?hg (N := 4) ?hd (cs := #[.int .i64 a1_0, .int .i64 a1_1]) (t := 43) ?hr ?_; (case hd => rfl); (case hg => rfl); (case hr => first | (go_simp; done) | (go_simp; rfl)); intro gb386 hg w17 hbox hb; have n0_ := Aside0.mk (blk_below (g := gb385) blkz hb); have n1_ := Aside0.mk (below_step bel hb); have n2_ := Aside0.mk (hbox); have n3_ := Aside0.mk ((by rw [hg]; exact (below_size bel) : w.heap.size ≤ gb386)); have n4_ := n3_; have n5_ := Aside0.mk ((by rw [hg]; exact Nat.ne_of_lt (blk_lt (g := gb385) (o := .cells #[.int .i64 a0_0, .slice A0_1 l0_1.length c0_1, .slice A0_2 l0_2.length c0_2] 25 (0, 0)) blkz) : gb385 ≠ gb386)); have n6_ := Aside0.mk ((by rw [hg]; exact Nat.ne_of_gt (blk_lt (g := gb385) (o := .cells #[.int .i64 a0_0, .slice A0_1 l0_1.length c0_1, .slice A0_2 l0_2.length c0_2] 25 (0, 0)) blkz) : gb386 ≠ gb385)); clear BK385; clear HB; have BK385 := n0_; have HB := n1_; have BK386 := n2_; have GW386 := n3_; have GE386 := n4_; have NB385_386 := n5_; have NB386_385 := n6_; clear n0_ n1_ n2_ n3_ n4_ n5_ n6_; clear hb hbox hg; have hnb18 := NB385_386.out; have hnc18 := NB386_385.out; have hcz19_0 := blkc BK385.out 0 (.int .i64 a0_0) rfl; have hcz19_1 := blkc BK385.out 1 (.slice A0_1 l0_1.length c0_1) rfl; have hcz19_2 := blkc BK385.out 2 (.slice A0_2 l0_2.length c0_2) rfl; have hfz19_0 := blk_frozen BK385.out 0; have hfz19_1 := blk_frozen BK385.out 1; have hfz19_2 := blk_frozen BK385.out 2) | ((with_reducible refine gate_callee (f := 11) rfl ?_); refine goesL_ (some 15) rfl rfl Tryd.func11 (by kernel_rfl) rfl #[.agg #[.int .i64 a0_0, .slice A0_1 l0_1.length c0_1, .slice A0_2 l0_2.length c0_2], .slice A2 l2.length c2] rfl mapz ?_; (with_reducible refine (dropperlaw05_Large.calls a0_0 _ _ l0_1 _ _ l0_2 _ _ l2 false _ ?side1 ?side2 ?side3 ?side4 ?side5 ?side6 A4.out).mono ?_); (case side1 => exact cbz HR0_1); (case side2 => exact HC0_1.out); (case side3 => exact cbz HR0_2); (case side4 => exact HC0_2.out); (case side5 => exact cbz HR2); (case side6 => exact HC2.out); rintro e w20 ⟨rfl, hb⟩; refine ⟨_, rfl, ?_⟩; have n0_ := Aside0.mk (blk_below (g := gb385) blkz hb); have n1_ := Aside0.mk (blk_below (g := gb386) blkz hb); have n2_ := Aside0.mk (below_step bel hb); clear BK385; clear BK386; clear HB; have BK385 := n0_; have BK386 := n1_; have HB := n2_; clear n0_ n1_ n2_; (try clear hb); (try clear hb2); (try clear hk); (try clear hi); have hcz21_0 := blkc BK385.out 0 (.int .i64 a0_0) rfl; have hcz21_1 := blkc BK385.out 1 (.slice A0_1 l0_1.length c0_1) rfl; have hcz21_2 := blkc BK385.out 2 (.slice A0_2 l0_2.length c0_2) rfl; have hfz21_0 := blk_frozen BK385.out 0; have hfz21_1 := blk_frozen BK385.out 1; have hfz21_2 := blk_frozen BK385.out 2; have hcz22_0 := blkc BK386.out 0 (.int .i64 a1_0) rfl; have hcz22_1 := blkc BK386.out 1 (.int .i64 a1_1) rfl; have hfz22_0 := blk_frozen BK386.out 0; have hfz22_1 := blk_frozen BK386.out 1) | ((with_reducible refine gate_callee (f := 22) rfl ?_); refine goesL_ (some 24) rfl rfl Tryd.func22 (by kernel_rfl) rfl #[.agg #[.int .i64 a0_0, .slice A0_1 l0_1.length c0_1, .slice A0_2 l0_2.length c0_2], .int .i64 a1_0, .int .i64 a1_1, .slice A2 l2.length c2] rfl mapz ?_; (with_reducible refine (feed_Isolates.calls k a0_0 _ _ l0_1 _ _ l0_2 a1_0 a1_1 _ _ l2 t389 t390 _ ?side1 ?side2 ?side3 ?side4 ?side5 ?side6 A13.out).mono ?_); (case side1 => exact cbz HR0_1); (case side2 => exact HC0_1.out); (case side3 => exact cbz HR0_2); (case side4 => exact HC0_2.out); (case side5 => exact cbz HR2); (case side6 => exact HC2.out); rintro e w23 ⟨rfl, hb⟩; refine ⟨_, rfl, ?_⟩; have n0_ := Aside0.mk (blk_below (g := gb385) blkz hb); have n1_ := Aside0.mk (blk_below (g := gb386) blkz hb); have n2_ := Aside0.mk (below_step bel hb); clear BK385; clear BK386; clear HB; have BK385 := n0_; have BK386 := n1_; have HB := n2_; clear n0_ n1_ n2_; (try clear hb); (try clear hb2); (try clear hk); (try clear hi); have hcz24_0 := blkc BK385.out 0 (.int .i64 a0_0) rfl; have hcz24_1 := blkc BK385.out 1 (.slice A0_1 l0_1.length c0_1) rfl; have hcz24_2 := blkc BK385.out 2 (.slice A0_2 l0_2.length c0_2) rfl; have hfz24_0 := blk_frozen BK385.out 0; have hfz24_1 := blk_frozen BK385.out 1; have hfz24_2 := blk_frozen BK385.out 2; have hcz25_0 := blkc BK386.out 0 (.int .i64 a1_0) rfl; have hcz25_1 := blkc BK386.out 1 (.int .i64 a1_1) rfl; have hfz25_0 := blk_frozen BK386.out 0; have hfz25_1 := blk_frozen BK386.out 1) | ((with_reducible refine gate_callee (f := 23) rfl ?_); refine goesL_ (some 34) rfl rfl Tryd.func23 (by kernel_rfl) rfl #[.agg #[.int .i64 a0_0, .slice A0_1 l0_1.length c0_1, .slice A0_2 l0_2.length c0_2], .int .i64 a1_0, .int .i64 a1_1, .slice A2 l2.length c2] rfl mapz ?_; (with_reducible refine (dropperref05_Isolates.calls k a0_0 _ _ l0_1 _ _ l0_2 a1_0 a1_1 _ _ l2 t391 t392 _ ?side1 ?side2 ?side3 ?side4 ?side5 ?side6 A14.out).mono ?_); (case side1 => exact cbz HR0_1); (case side2 => exact HC0_1.out); (case side3 => exact cbz HR0_2); (case side4 => exact HC0_2.out); (case side5 => exact cbz HR2); (case side6 => exact HC2.out); rintro e w26 ⟨rfl, hb⟩; refine ⟨_, rfl, ?_⟩; have n0_ := Aside0.mk (blk_below (g := gb385) blkz hb); have n1_ := Aside0.mk (blk_below (g := gb386) blkz hb); have n2_ := Aside0.mk (below_step bel hb); clear BK385; clear BK386; clear HB; have BK385 := n0_; have BK386 := n1_; have HB := n2_; clear n0_ n1_ n2_; (try clear hb); (try clear hb2); (try clear hk); (try clear hi)))
  (try simp only [Act.put, List.setIfInBounds_toArray, List.set_cons_zero, List.set_cons_succ])
  go_cut [44] (fun v44 wc => ∃ (kq : Nat) (x44_14 : Bool), v44 = .bool x44_14 ∧ Aside0 (dropperlaw05_FeedIsolates.j0 kq x44_14 a0_0 l0_1 l0_2 a1_0 a1_1 = some r) ∧ Aside0 (kq ≤ k) ∧ Aside0 (wc.heap[gb385]? = some (.cells #[.int .i64 a0_0, (.slice A0_1 l0_1.length c0_1), (.slice A0_2 l0_2.length c0_2)] 25 (0, 0))) ∧ Aside0 (wc.heap[gb386]? = some (.cells #[.int .i64 a1_0, .int .i64 a1_1] 43 (0, 0))) ∧ Aside0 (Below w.heap.size w wc))
  case first =>
   have H := HC15.out
   clear HC15
   by_cases c27 : (t389 != t391) = true
   ·
    rw [if_pos c27] at H
    have c27b0 : (t389 != t391) = true := c27
    (try (have c27b1 : decide (t389 = t391) = false := by simpa using c27))
    (try (have c27b2 : (t389 == t391) = false := by simpa using c27))
    (try (have c27b3 : ¬ (t389 = t391) := by simpa using c27))
    clear c27
    (first | rw [c27b0] | (simp only [i64_w, i32_w]; rw [c27b0]) | skip)
    have H' := Aside0.mk H
    clear H
    go_wp2
    go_meet
    case rel => exact ⟨_, (true), rsz, H', ⟨by first | omega | exact Nat.le_refl _⟩, ⟨by (with_reducible repeat (first | refine blk_drewN ?_ _ | refine blk_drew ?_ | refine blk_alloc ?_ _)); exact BK385.out⟩, ⟨by (with_reducible repeat (first | refine blk_drewN ?_ _ | refine blk_drew ?_ | refine blk_alloc ?_ _)); exact BK386.out⟩, ⟨by repeat (first | (with_reducible first | exact HB.out | apply below_alloc | apply pw_below_drewN | apply below_drew1 | refine below_set ?_ GE385.out | refine below_set ?_ GE386.out) | exact HB.out)⟩⟩
   ·
    rw [if_neg c27] at H
    have c27b0 : (t389 != t391) = false := by simpa using c27
    (try (have c27b1 : decide (t389 = t391) = true := by simpa using c27))
    (try (have c27b2 : (t389 == t391) = true := by simpa using c27))
    clear c27
    (first | rw [c27b0] | (simp only [i64_w, i32_w]; rw [c27b0]) | skip)
    have H' := Aside0.mk H
    clear H
    go_wp2
    go_meet
    case rel => exact ⟨_, ((t390 != t392)), rsz, H', ⟨by first | omega | exact Nat.le_refl _⟩, ⟨by (with_reducible repeat (first | refine blk_drewN ?_ _ | refine blk_drew ?_ | refine blk_alloc ?_ _)); exact BK385.out⟩, ⟨by (with_reducible repeat (first | refine blk_drewN ?_ _ | refine blk_drew ?_ | refine blk_alloc ?_ _)); exact BK386.out⟩, ⟨by repeat (first | (with_reducible first | exact HB.out | apply below_alloc | apply pw_below_drewN | apply below_drew1 | refine below_set ?_ GE385.out | refine below_set ?_ GE386.out) | exact HB.out)⟩⟩
  case rest =>
   clear HC15
   try clear c1
   try clear c2
   try clear p2
   try clear c5
   try clear c9
   try clear c11
   try clear c12
   try clear c18
   try clear c22
   try clear c23
   try clear c27
   try clear c27b0
   try clear c27b1
   try clear c27b2
   try clear hcz10_0
   try clear hcz10_1
   try clear hcz10_2
   try clear hcz19_0
   try clear hcz19_1
   try clear hcz19_2
   try clear hcz21_0
   try clear hcz21_1
   try clear hcz21_2
   try clear hcz22_0
   try clear hcz22_1
   try clear hcz24_0
   try clear hcz24_1
   try clear hcz24_2
   try clear hcz25_0
   try clear hcz25_1
   try clear hfz10_0
   try clear hfz10_1
   try clear hfz10_2
   try clear hfz19_0
   try clear hfz19_1
   try clear hfz19_2
   try clear hfz21_0
   try clear hfz21_1
   try clear hfz21_2
   try clear hfz22_0
   try clear hfz22_1
   try clear hfz24_0
   try clear hfz24_1
   try clear hfz24_2
   try clear hfz25_0
   try clear hfz25_1
   obtain ⟨kq, x44_14, rfl, HA, HJ14, BK385, BK386, HB⟩ := hcut
   cases kq with
   | zero => exact absurd HA.out (by simp [dropperlaw05_FeedIsolates.j0])
   | succ kj14 =>
    have H := HA.out
    clear HA
    simp only [dropperlaw05_FeedIsolates.j0] at H
    by_cases c28 : x44_14 = true
    ·
     subst c28
     have H1 : (none) = some r := by rw [if_pos rfl] at H; exact H
     clear H
     have H := H1
     clear H1
     exact absurd H (by simp)
    ·
     replace c28 := Bool.eq_false_iff.mpr c28
     subst c28
     have H1 : ((feed_Isolate.f kj14 a0_0 l0_1 l0_2 a1_0 a1_1).bind fun bt393 => ((dropperref05_Why.f kj14 a0_0 l0_1 l0_2 a1_0 a1_1).bind fun t397 => (if t397 = 0 then ((dropperref05_At.f kj14 a0_0 l0_1 l0_2 a1_1).bind fun t399 => (if t399 = true then (if (bt393.1.length : Int) = 0 then (if bt393.2 = 5 then ((dropperlaw05_First.f kj14).bind fun t400 => (some t400)) else (none)) else (none)) else ((dropperref05_Isolates.f kj14 a0_0 l0_1 l0_2 a1_0 a1_1 bt393.1).bind fun bt401 => (if bt393.2 = 0 then (if bt401.2 = 0 then (if bt401.1 = true then ((dropperref05_Fewest.f kj14 a0_0 l0_1 l0_2 a1_0 a1_1).bind fun t403 => (if (bt393.1.length : Int) = t403 then ((dropperlaw05_First.f kj14).bind fun t404 => (some t404)) else (none))) else (none)) else (none)) else (none))))) else (if (bt393.1.length : Int) = 0 then (if bt393.2 = t397 then ((dropperlaw05_First.f kj14).bind fun t398 => (some t398)) else (none)) else (none))))) = some r := by rw [if_neg (show ¬ (false = true) by decide)] at H; exact H
     clear H
     have H := H1
     clear H1
     replace H := Option.bind_eq_some_iff.mp H
     obtain ⟨⟨t393, t396⟩, A290, H⟩ := H
     replace H : ((dropperref05_Why.f kj14 a0_0 l0_1 l0_2 a1_0 a1_1).bind fun t397 => (if t397 = 0 then ((dropperref05_At.f kj14 a0_0 l0_1 l0_2 a1_1).bind fun t399 => (if t399 = true then (if (t393.length : Int) = 0 then (if t396 = 5 then ((dropperlaw05_First.f kj14).bind fun t400 => (some t400)) else (none)) else (none)) else ((dropperref05_Isolates.f kj14 a0_0 l0_1 l0_2 a1_0 a1_1 t393).bind fun bt401 => (if t396 = 0 then (if bt401.2 = 0 then (if bt401.1 = true then ((dropperref05_Fewest.f kj14 a0_0 l0_1 l0_2 a1_0 a1_1).bind fun t403 => (if (t393.length : Int) = t403 then ((dropperlaw05_First.f kj14).bind fun t404 => (some t404)) else (none))) else (none)) else (none)) else (none))))) else (if (t393.length : Int) = 0 then (if t396 = t397 then ((dropperlaw05_First.f kj14).bind fun t398 => (some t398)) else (none)) else (none)))) = some r := H
     have A29 := Aside0.mk A290
     clear A290
     replace H := Option.bind_eq_some_iff.mp H
     obtain ⟨t397, A300, H⟩ := H
     replace H : (if t397 = 0 then ((dropperref05_At.f kj14 a0_0 l0_1 l0_2 a1_1).bind fun t399 => (if t399 = true then (if (t393.length : Int) = 0 then (if t396 = 5 then ((dropperlaw05_First.f kj14).bind fun t400 => (some t400)) else (none)) else (none)) else ((dropperref05_Isolates.f kj14 a0_0 l0_1 l0_2 a1_0 a1_1 t393).bind fun bt401 => (if t396 = 0 then (if bt401.2 = 0 then (if bt401.1 = true then ((dropperref05_Fewest.f kj14 a0_0 l0_1 l0_2 a1_0 a1_1).bind fun t403 => (if (t393.length : Int) = t403 then ((dropperlaw05_First.f kj14).bind fun t404 => (some t404)) else (none))) else (none)) else (none)) else (none))))) else (if (t393.length : Int) = 0 then (if t396 = t397 then ((dropperlaw05_First.f kj14).bind fun t398 => (some t398)) else (none)) else (none))) = some r := H
     have A30 := Aside0.mk A300
     clear A300
     by_cases c31 : t397 = 0
     ·
      rw [if_pos c31] at H
      have c31b0 : (t397 == 0) = true := beq_iff_eq.mpr c31
      have c31b1 : (t397 != 0) = false := bne_eq_false_iff_eq.mpr c31
      clear c31
      replace H := Option.bind_eq_some_iff.mp H
      obtain ⟨t399, A320, H⟩ := H
      replace H : (if t399 = true then (if (t393.length : Int) = 0 then (if t396 = 5 then ((dropperlaw05_First.f kj14).bind fun t400 => (some t400)) else (none)) else (none)) else ((dropperref05_Isolates.f kj14 a0_0 l0_1 l0_2 a1_0 a1_1 t393).bind fun bt401 => (if t396 = 0 then (if bt401.2 = 0 then (if bt401.1 = true then ((dropperref05_Fewest.f kj14 a0_0 l0_1 l0_2 a1_0 a1_1).bind fun t403 => (if (t393.length : Int) = t403 then ((dropperlaw05_First.f kj14).bind fun t404 => (some t404)) else (none))) else (none)) else (none)) else (none)))) = some r := H
      have A32 := Aside0.mk A320
      clear A320
      by_cases c33 : t399 = true
      ·
       subst c33
       have H1 : (if (t393.length : Int) = 0 then (if t396 = 5 then ((dropperlaw05_First.f kj14).bind fun t400 => (some t400)) else (none)) else (none)) = some r := by rw [if_pos rfl] at H; exact H
       clear H
       have H := H1
       clear H1
       by_cases c34 : (t393.length : Int) = 0
       ·
        rw [if_pos c34] at H
        have c34b0 : ((t393.length : Int) == 0) = true := beq_iff_eq.mpr c34
        have c34b1 : ((t393.length : Int) != 0) = false := bne_eq_false_iff_eq.mpr c34
        clear c34
        by_cases c35 : t396 = 5
        ·
         rw [if_pos c35] at H
         have c35b0 : (t396 == 5) = true := beq_iff_eq.mpr c35
         have c35b1 : (t396 != 5) = false := bne_eq_false_iff_eq.mpr c35
         clear c35
         replace H := Option.bind_eq_some_iff.mp H
         obtain ⟨t400, A360, H⟩ := H
         replace H : (some t400) = some r := H
         have A36 := Aside0.mk A360
         clear A360
         obtain rfl := Option.some.inj H
         have hnb37 := NB385_386.out
         have hnc37 := NB386_385.out
         have hcz38_0 := blkc BK385.out 0 (.int .i64 a0_0) rfl
         have hcz38_1 := blkc BK385.out 1 (.slice A0_1 l0_1.length c0_1) rfl
         have hcz38_2 := blkc BK385.out 2 (.slice A0_2 l0_2.length c0_2) rfl
         have hfz38_0 := blk_frozen BK385.out 0
         have hfz38_1 := blk_frozen BK385.out 1
         have hfz38_2 := blk_frozen BK385.out 2
         have hcz39_0 := blkc BK386.out 0 (.int .i64 a1_0) rfl
         have hcz39_1 := blkc BK386.out 1 (.int .i64 a1_1) rfl
         have hfz39_0 := blk_frozen BK386.out 0
         have hfz39_1 := blk_frozen BK386.out 1
         go_wp2_with (first | ((with_reducible refine gate_callee (f := 24) rfl ?_); refine goesL_ (some 51) rfl rfl Tryd.func24 (by kernel_rfl) rfl #[.agg #[.int .i64 a0_0, .slice A0_1 l0_1.length c0_1, .slice A0_2 l0_2.length c0_2], .int .i64 a1_0, .int .i64 a1_1] rfl mapz ?_; (with_reducible refine (feed_Isolate.calls kj14 a0_0 _ _ l0_1 _ _ l0_2 a1_0 a1_1 t393 t396 _ ?side1 ?side2 ?side3 ?side4 ?sideT A29.out).mono ?_); (case sideT => first | exact HT.out | exact Tab.Tabs.below HT.out bel | (with_reducible repeat (first | exact HT.out | apply Tab.Tabs.alloc | apply Tab.Tabs.drewN | apply Tab.Tabs.drew))); (case side1 => exact cbz HR0_1); (case side2 => exact HC0_1.out); (case side3 => exact cbz HR0_2); (case side4 => exact HC0_2.out); rintro e w40 ⟨v394, rfl, ho0, hb⟩; refine ⟨_, rfl, ?_⟩; have n0_ := Aside0.mk (Kd.R_lower ho0 (below_size bel)); have n1_ := Aside0.mk (blk_below (g := gb385) blkz hb); have n2_ := Aside0.mk (blk_below (g := gb386) blkz hb); have n3_ := Aside0.mk (below_step bel hb); clear BK385; clear BK386; clear HB; have HO395 := n0_; have BK385 := n1_; have BK386 := n2_; have HB := n3_; clear n0_ n1_ n2_ n3_; (try clear hb); (try clear hb2); (try clear hk); (try clear hi); (try clear ho0); have hcz41_0 := blkc BK385.out 0 (.int .i64 a0_0) rfl; have hcz41_1 := blkc BK385.out 1 (.slice A0_1 l0_1.length c0_1) rfl; have hcz41_2 := blkc BK385.out 2 (.slice A0_2 l0_2.length c0_2) rfl; have hfz41_0 := blk_frozen BK385.out 0; have hfz41_1 := blk_frozen BK385.out 1; have hfz41_2 := blk_frozen BK385.out 2; have hcz42_0 := blkc BK386.out 0 (.int .i64 a1_0) rfl; have hcz42_1 := blkc BK386.out 1 (.int .i64 a1_1) rfl; have hfz42_0 := blk_frozen BK386.out 0; have hfz42_1 := blk_frozen BK386.out 1) | ((with_reducible refine gate_callee (f := 25) rfl ?_); refine goesL_ (some 59) rfl rfl Tryd.func25 (by kernel_rfl) rfl #[.agg #[.int .i64 a0_0, .slice A0_1 l0_1.length c0_1, .slice A0_2 l0_2.length c0_2], .int .i64 a1_0, .int .i64 a1_1] rfl mapz ?_; (with_reducible refine (dropperref05_Why.calls kj14 a0_0 _ _ l0_1 _ _ l0_2 a1_0 a1_1 t397 _ ?side1 ?side2 ?side3 ?side4 A30.out).mono ?_); (case side1 => exact cbz HR0_1); (case side2 => exact HC0_1.out); (case side3 => exact cbz HR0_2); (case side4 => exact HC0_2.out); rintro e w43 ⟨rfl, hb⟩; refine ⟨_, rfl, ?_⟩; have n0_ := Aside0.mk (Kd.R_below (by (with_reducible repeat (first | apply Kd.R_alloc | apply Kd.R_drewN | apply Kd.R_drew)); exact HO395.out) hb); have n1_ := Aside0.mk (blk_below (g := gb385) blkz hb); have n2_ := Aside0.mk (blk_below (g := gb386) blkz hb); have n3_ := Aside0.mk (below_step bel hb); clear HO395; clear BK385; clear BK386; clear HB; have HO395 := n0_; have BK385 := n1_; have BK386 := n2_; have HB := n3_; clear n0_ n1_ n2_ n3_; (try clear hb); (try clear hb2); (try clear hk); (try clear hi); have hcz44_0 := blkc BK385.out 0 (.int .i64 a0_0) rfl; have hcz44_1 := blkc BK385.out 1 (.slice A0_1 l0_1.length c0_1) rfl; have hcz44_2 := blkc BK385.out 2 (.slice A0_2 l0_2.length c0_2) rfl; have hfz44_0 := blk_frozen BK385.out 0; have hfz44_1 := blk_frozen BK385.out 1; have hfz44_2 := blk_frozen BK385.out 2; have hcz45_0 := blkc BK386.out 0 (.int .i64 a1_0) rfl; have hcz45_1 := blkc BK386.out 1 (.int .i64 a1_1) rfl; have hfz45_0 := blk_frozen BK386.out 0; have hfz45_1 := blk_frozen BK386.out 1) | ((with_reducible refine gate_callee (f := 26) rfl ?_); refine goesL_ (some 76) rfl rfl Tryd.func26 (by kernel_rfl) rfl #[.agg #[.int .i64 a0_0, .slice A0_1 l0_1.length c0_1, .slice A0_2 l0_2.length c0_2], .int .i64 a1_1] rfl mapz ?_; (with_reducible refine (dropperref05_At.calls kj14 a0_0 _ _ l0_1 _ _ l0_2 a1_1 true _ ?side1 ?side2 ?side3 ?side4 A32.out).mono ?_); (case side1 => exact cbz HR0_1); (case side2 => exact HC0_1.out); (case side3 => exact cbz HR0_2); (case side4 => exact HC0_2.out); rintro e w46 ⟨rfl, hb⟩; refine ⟨_, rfl, ?_⟩; have n0_ := Aside0.mk (Kd.R_below (by (with_reducible repeat (first | apply Kd.R_alloc | apply Kd.R_drewN | apply Kd.R_drew)); exact HO395.out) hb); have n1_ := Aside0.mk (blk_below (g := gb385) blkz hb); have n2_ := Aside0.mk (blk_below (g := gb386) blkz hb); have n3_ := Aside0.mk (below_step bel hb); clear HO395; clear BK385; clear BK386; clear HB; have HO395 := n0_; have BK385 := n1_; have BK386 := n2_; have HB := n3_; clear n0_ n1_ n2_ n3_; (try clear hb); (try clear hb2); (try clear hk); (try clear hi); obtain ⟨Ao47, co47, eo47⟩ := Kd.R_slice HO395.out; subst eo47) | (go_at_call 12; (with_reducible refine (dropperlaw05_First.calls kj14  t400 _ ?sideT A36.out).mono ?_); (case sideT => first | exact HT.out | exact Tab.Tabs.below HT.out bel | (with_reducible repeat (first | exact HT.out | apply Tab.Tabs.alloc | apply Tab.Tabs.drewN | apply Tab.Tabs.drew))); rintro e w48 ⟨rfl, hb⟩; have n0_ := Aside0.mk (Kd.R_below (by (with_reducible repeat (first | apply Kd.R_alloc | apply Kd.R_drewN | apply Kd.R_drew)); exact HO395.out) hb); have n1_ := Aside0.mk (blk_below (g := gb385) blkz hb); have n2_ := Aside0.mk (blk_below (g := gb386) blkz hb); have n3_ := Aside0.mk (below_step bel hb); clear HO395; clear BK385; clear BK386; clear HB; have HO395 := n0_; have BK385 := n1_; have BK386 := n2_; have HB := n3_; clear n0_ n1_ n2_ n3_; (try clear hb); (try clear hb2); (try clear hk); (try clear hi)))
         go_ret
         exact ⟨by first | rfl | (simp [errW_none, errW_some] <;> rfl) | (simp [*, errW_none, errW_some] <;> rfl), by repeat (first | (with_reducible first | exact HB.out | apply below_alloc | apply pw_below_drewN | apply below_drew1 | refine below_set ?_ GE385.out | refine below_set ?_ GE386.out) | exact HB.out)⟩
        ·
         rw [if_neg c35] at H
         exact absurd H (by simp)
       ·
        rw [if_neg c34] at H
        exact absurd H (by simp)
      ·
       replace c33 := Bool.eq_false_iff.mpr c33
       subst c33
       have H1 : ((dropperref05_Isolates.f kj14 a0_0 l0_1 l0_2 a1_0 a1_1 t393).bind fun bt401 => (if t396 = 0 then (if bt401.2 = 0 then (if bt401.1 = true then ((dropperref05_Fewest.f kj14 a0_0 l0_1 l0_2 a1_0 a1_1).bind fun t403 => (if (t393.length : Int) = t403 then ((dropperlaw05_First.f kj14).bind fun t404 => (some t404)) else (none))) else (none)) else (none)) else (none))) = some r := by rw [if_neg (show ¬ (false = true) by decide)] at H; exact H
       clear H
       have H := H1
       clear H1
       replace H := Option.bind_eq_some_iff.mp H
       obtain ⟨⟨t401, t402⟩, A490, H⟩ := H
       replace H : (if t396 = 0 then (if t402 = 0 then (if t401 = true then ((dropperref05_Fewest.f kj14 a0_0 l0_1 l0_2 a1_0 a1_1).bind fun t403 => (if (t393.length : Int) = t403 then ((dropperlaw05_First.f kj14).bind fun t404 => (some t404)) else (none))) else (none)) else (none)) else (none)) = some r := H
       have A49 := Aside0.mk A490
       clear A490
       by_cases c50 : t396 = 0
       ·
        rw [if_pos c50] at H
        have c50b0 : (t396 == 0) = true := beq_iff_eq.mpr c50
        have c50b1 : (t396 != 0) = false := bne_eq_false_iff_eq.mpr c50
        clear c50
        by_cases c51 : t402 = 0
        ·
         rw [if_pos c51] at H
         have c51b0 : (t402 == 0) = true := beq_iff_eq.mpr c51
         have c51b1 : (t402 != 0) = false := bne_eq_false_iff_eq.mpr c51
         clear c51
         by_cases c52 : t401 = true
         ·
          subst c52
          have H1 : ((dropperref05_Fewest.f kj14 a0_0 l0_1 l0_2 a1_0 a1_1).bind fun t403 => (if (t393.length : Int) = t403 then ((dropperlaw05_First.f kj14).bind fun t404 => (some t404)) else (none))) = some r := by rw [if_pos rfl] at H; exact H
          clear H
          have H := H1
          clear H1
          replace H := Option.bind_eq_some_iff.mp H
          obtain ⟨t403, A530, H⟩ := H
          replace H : (if (t393.length : Int) = t403 then ((dropperlaw05_First.f kj14).bind fun t404 => (some t404)) else (none)) = some r := H
          have A53 := Aside0.mk A530
          clear A530
          by_cases c54 : (t393.length : Int) = t403
          ·
           rw [if_pos c54] at H
           have c54b0 : ((t393.length : Int) == t403) = true := beq_iff_eq.mpr c54
           have c54b1 : ((t393.length : Int) != t403) = false := bne_eq_false_iff_eq.mpr c54
           clear c54
           replace H := Option.bind_eq_some_iff.mp H
           obtain ⟨t404, A550, H⟩ := H
           replace H : (some t404) = some r := H
           have A55 := Aside0.mk A550
           clear A550
           obtain rfl := Option.some.inj H
           have hnb56 := NB385_386.out
           have hnc56 := NB386_385.out
           have hcz57_0 := blkc BK385.out 0 (.int .i64 a0_0) rfl
           have hcz57_1 := blkc BK385.out 1 (.slice A0_1 l0_1.length c0_1) rfl
           have hcz57_2 := blkc BK385.out 2 (.slice A0_2 l0_2.length c0_2) rfl
           have hfz57_0 := blk_frozen BK385.out 0
           have hfz57_1 := blk_frozen BK385.out 1
           have hfz57_2 := blk_frozen BK385.out 2
           have hcz58_0 := blkc BK386.out 0 (.int .i64 a1_0) rfl
           have hcz58_1 := blkc BK386.out 1 (.int .i64 a1_1) rfl
           have hfz58_0 := blk_frozen BK386.out 0
           have hfz58_1 := blk_frozen BK386.out 1
           go_wp2_with (first | ((with_reducible refine gate_callee (f := 24) rfl ?_); refine goesL_ (some 51) rfl rfl Tryd.func24 (by kernel_rfl) rfl #[.agg #[.int .i64 a0_0, .slice A0_1 l0_1.length c0_1, .slice A0_2 l0_2.length c0_2], .int .i64 a1_0, .int .i64 a1_1] rfl mapz ?_; (with_reducible refine (feed_Isolate.calls kj14 a0_0 _ _ l0_1 _ _ l0_2 a1_0 a1_1 t393 t396 _ ?side1 ?side2 ?side3 ?side4 ?sideT A29.out).mono ?_); (case sideT => first | exact HT.out | exact Tab.Tabs.below HT.out bel | (with_reducible repeat (first | exact HT.out | apply Tab.Tabs.alloc | apply Tab.Tabs.drewN | apply Tab.Tabs.drew))); (case side1 => exact cbz HR0_1); (case side2 => exact HC0_1.out); (case side3 => exact cbz HR0_2); (case side4 => exact HC0_2.out); rintro e w59 ⟨v394, rfl, ho0, hb⟩; refine ⟨_, rfl, ?_⟩; have n0_ := Aside0.mk (Kd.R_lower ho0 (below_size bel)); have n1_ := Aside0.mk (blk_below (g := gb385) blkz hb); have n2_ := Aside0.mk (blk_below (g := gb386) blkz hb); have n3_ := Aside0.mk (below_step bel hb); clear BK385; clear BK386; clear HB; have HO395 := n0_; have BK385 := n1_; have BK386 := n2_; have HB := n3_; clear n0_ n1_ n2_ n3_; (try clear hb); (try clear hb2); (try clear hk); (try clear hi); (try clear ho0); have hcz60_0 := blkc BK385.out 0 (.int .i64 a0_0) rfl; have hcz60_1 := blkc BK385.out 1 (.slice A0_1 l0_1.length c0_1) rfl; have hcz60_2 := blkc BK385.out 2 (.slice A0_2 l0_2.length c0_2) rfl; have hfz60_0 := blk_frozen BK385.out 0; have hfz60_1 := blk_frozen BK385.out 1; have hfz60_2 := blk_frozen BK385.out 2; have hcz61_0 := blkc BK386.out 0 (.int .i64 a1_0) rfl; have hcz61_1 := blkc BK386.out 1 (.int .i64 a1_1) rfl; have hfz61_0 := blk_frozen BK386.out 0; have hfz61_1 := blk_frozen BK386.out 1) | ((with_reducible refine gate_callee (f := 25) rfl ?_); refine goesL_ (some 59) rfl rfl Tryd.func25 (by kernel_rfl) rfl #[.agg #[.int .i64 a0_0, .slice A0_1 l0_1.length c0_1, .slice A0_2 l0_2.length c0_2], .int .i64 a1_0, .int .i64 a1_1] rfl mapz ?_; (with_reducible refine (dropperref05_Why.calls kj14 a0_0 _ _ l0_1 _ _ l0_2 a1_0 a1_1 t397 _ ?side1 ?side2 ?side3 ?side4 A30.out).mono ?_); (case side1 => exact cbz HR0_1); (case side2 => exact HC0_1.out); (case side3 => exact cbz HR0_2); (case side4 => exact HC0_2.out); rintro e w62 ⟨rfl, hb⟩; refine ⟨_, rfl, ?_⟩; have n0_ := Aside0.mk (Kd.R_below (by (with_reducible repeat (first | apply Kd.R_alloc | apply Kd.R_drewN | apply Kd.R_drew)); exact HO395.out) hb); have n1_ := Aside0.mk (blk_below (g := gb385) blkz hb); have n2_ := Aside0.mk (blk_below (g := gb386) blkz hb); have n3_ := Aside0.mk (below_step bel hb); clear HO395; clear BK385; clear BK386; clear HB; have HO395 := n0_; have BK385 := n1_; have BK386 := n2_; have HB := n3_; clear n0_ n1_ n2_ n3_; (try clear hb); (try clear hb2); (try clear hk); (try clear hi); have hcz63_0 := blkc BK385.out 0 (.int .i64 a0_0) rfl; have hcz63_1 := blkc BK385.out 1 (.slice A0_1 l0_1.length c0_1) rfl; have hcz63_2 := blkc BK385.out 2 (.slice A0_2 l0_2.length c0_2) rfl; have hfz63_0 := blk_frozen BK385.out 0; have hfz63_1 := blk_frozen BK385.out 1; have hfz63_2 := blk_frozen BK385.out 2; have hcz64_0 := blkc BK386.out 0 (.int .i64 a1_0) rfl; have hcz64_1 := blkc BK386.out 1 (.int .i64 a1_1) rfl; have hfz64_0 := blk_frozen BK386.out 0; have hfz64_1 := blk_frozen BK386.out 1) | ((with_reducible refine gate_callee (f := 26) rfl ?_); refine goesL_ (some 76) rfl rfl Tryd.func26 (by kernel_rfl) rfl #[.agg #[.int .i64 a0_0, .slice A0_1 l0_1.length c0_1, .slice A0_2 l0_2.length c0_2], .int .i64 a1_1] rfl mapz ?_; (with_reducible refine (dropperref05_At.calls kj14 a0_0 _ _ l0_1 _ _ l0_2 a1_1 false _ ?side1 ?side2 ?side3 ?side4 A32.out).mono ?_); (case side1 => exact cbz HR0_1); (case side2 => exact HC0_1.out); (case side3 => exact cbz HR0_2); (case side4 => exact HC0_2.out); rintro e w65 ⟨rfl, hb⟩; refine ⟨_, rfl, ?_⟩; have n0_ := Aside0.mk (Kd.R_below (by (with_reducible repeat (first | apply Kd.R_alloc | apply Kd.R_drewN | apply Kd.R_drew)); exact HO395.out) hb); have n1_ := Aside0.mk (blk_below (g := gb385) blkz hb); have n2_ := Aside0.mk (blk_below (g := gb386) blkz hb); have n3_ := Aside0.mk (below_step bel hb); clear HO395; clear BK385; clear BK386; clear HB; have HO395 := n0_; have BK385 := n1_; have BK386 := n2_; have HB := n3_; clear n0_ n1_ n2_ n3_; (try clear hb); (try clear hb2); (try clear hk); (try clear hi); have hcz66_0 := blkc BK385.out 0 (.int .i64 a0_0) rfl; have hcz66_1 := blkc BK385.out 1 (.slice A0_1 l0_1.length c0_1) rfl; have hcz66_2 := blkc BK385.out 2 (.slice A0_2 l0_2.length c0_2) rfl; have hfz66_0 := blk_frozen BK385.out 0; have hfz66_1 := blk_frozen BK385.out 1; have hfz66_2 := blk_frozen BK385.out 2; have hcz67_0 := blkc BK386.out 0 (.int .i64 a1_0) rfl; have hcz67_1 := blkc BK386.out 1 (.int .i64 a1_1) rfl; have hfz67_0 := blk_frozen BK386.out 0; have hfz67_1 := blk_frozen BK386.out 1; obtain ⟨Ao68, co68, eo68⟩ := Kd.R_slice HO395.out; subst eo68) | ((with_reducible refine gate_callee (f := 23) rfl ?_); refine goesL_ (some 94) rfl rfl Tryd.func23 (by kernel_rfl) rfl #[.agg #[.int .i64 a0_0, .slice A0_1 l0_1.length c0_1, .slice A0_2 l0_2.length c0_2], .int .i64 a1_0, .int .i64 a1_1, .slice Ao68 t393.length co68] rfl mapz ?_; (with_reducible refine (dropperref05_Isolates.calls kj14 a0_0 _ _ l0_1 _ _ l0_2 a1_0 a1_1 _ _ t393 true t402 _ ?side1 ?side2 ?side3 ?side4 ?side5 ?side6 A49.out).mono ?_); (case side1 => exact cbz HR0_1); (case side2 => exact HC0_1.out); (case side3 => exact cbz HR0_2); (case side4 => exact HC0_2.out); (case side5 => repeat (first | exact (Kd.R_reads' HO395.out).2.2 | (with_reducible refine Kd.C_alloc ?_ _) | (with_reducible refine Kd.C_drewN ?_ _) | (with_reducible refine Kd.C_drew ?_))); (case side6 => exact (Kd.R_reads' HO395.out).2.1); rintro e w69 ⟨rfl, hb⟩; refine ⟨_, rfl, ?_⟩; have n0_ := Aside0.mk (Kd.R_below (by (with_reducible repeat (first | apply Kd.R_alloc | apply Kd.R_drewN | apply Kd.R_drew)); exact HO395.out) hb); have n1_ := Aside0.mk (blk_below (g := gb385) blkz hb); have n2_ := Aside0.mk (blk_below (g := gb386) blkz hb); have n3_ := Aside0.mk (below_step bel hb); clear HO395; clear BK385; clear BK386; clear HB; have HO395 := n0_; have BK385 := n1_; have BK386 := n2_; have HB := n3_; clear n0_ n1_ n2_ n3_; (try clear hb); (try clear hb2); (try clear hk); (try clear hi); have hcz70_0 := blkc BK385.out 0 (.int .i64 a0_0) rfl; have hcz70_1 := blkc BK385.out 1 (.slice A0_1 l0_1.length c0_1) rfl; have hcz70_2 := blkc BK385.out 2 (.slice A0_2 l0_2.length c0_2) rfl; have hfz70_0 := blk_frozen BK385.out 0; have hfz70_1 := blk_frozen BK385.out 1; have hfz70_2 := blk_frozen BK385.out 2; have hcz71_0 := blkc BK386.out 0 (.int .i64 a1_0) rfl; have hcz71_1 := blkc BK386.out 1 (.int .i64 a1_1) rfl; have hfz71_0 := blk_frozen BK386.out 0; have hfz71_1 := blk_frozen BK386.out 1) | (go_at_call 27; (with_reducible refine (dropperref05_Fewest.calls kj14 a0_0 _ _ l0_1 _ _ l0_2 a1_0 a1_1 t403 _ ?side1 ?side2 ?side3 ?side4 A53.out).mono ?_); (case side1 => exact cbz HR0_1); (case side2 => exact HC0_1.out); (case side3 => exact cbz HR0_2); (case side4 => exact HC0_2.out); rintro e w72 ⟨rfl, hb⟩; have n0_ := Aside0.mk (Kd.R_below (by (with_reducible repeat (first | apply Kd.R_alloc | apply Kd.R_drewN | apply Kd.R_drew)); exact HO395.out) hb); have n1_ := Aside0.mk (blk_below (g := gb385) blkz hb); have n2_ := Aside0.mk (blk_below (g := gb386) blkz hb); have n3_ := Aside0.mk (below_step bel hb); clear HO395; clear BK385; clear BK386; clear HB; have HO395 := n0_; have BK385 := n1_; have BK386 := n2_; have HB := n3_; clear n0_ n1_ n2_ n3_; (try clear hb); (try clear hb2); (try clear hk); (try clear hi)) | (go_at_call 12; (with_reducible refine (dropperlaw05_First.calls kj14  t404 _ ?sideT A55.out).mono ?_); (case sideT => first | exact HT.out | exact Tab.Tabs.below HT.out bel | (with_reducible repeat (first | exact HT.out | apply Tab.Tabs.alloc | apply Tab.Tabs.drewN | apply Tab.Tabs.drew))); rintro e w73 ⟨rfl, hb⟩; have n0_ := Aside0.mk (Kd.R_below (by (with_reducible repeat (first | apply Kd.R_alloc | apply Kd.R_drewN | apply Kd.R_drew)); exact HO395.out) hb); have n1_ := Aside0.mk (blk_below (g := gb385) blkz hb); have n2_ := Aside0.mk (blk_below (g := gb386) blkz hb); have n3_ := Aside0.mk (below_step bel hb); clear HO395; clear BK385; clear BK386; clear HB; have HO395 := n0_; have BK385 := n1_; have BK386 := n2_; have HB := n3_; clear n0_ n1_ n2_ n3_; (try clear hb); (try clear hb2); (try clear hk); (try clear hi)))
           go_ret
           exact ⟨by first | rfl | (simp [errW_none, errW_some] <;> rfl) | (simp [*, errW_none, errW_some] <;> rfl), by repeat (first | (with_reducible first | exact HB.out | apply below_alloc | apply pw_below_drewN | apply below_drew1 | refine below_set ?_ GE385.out | refine below_set ?_ GE386.out) | exact HB.out)⟩
          ·
           rw [if_neg c54] at H
           exact absurd H (by simp)
         ·
          replace c52 := Bool.eq_false_iff.mpr c52
          subst c52
          have H1 : (none) = some r := by rw [if_neg (show ¬ (false = true) by decide)] at H; exact H
          clear H
          have H := H1
          clear H1
          exact absurd H (by simp)
        ·
         rw [if_neg c51] at H
         exact absurd H (by simp)
       ·
        rw [if_neg c50] at H
        exact absurd H (by simp)
     ·
      rw [if_neg c31] at H
      have c31b0 : (t397 == 0) = false := beq_eq_false_iff_ne.mpr c31
      have c31b1 : (t397 != 0) = true := bne_iff_ne.mpr c31
      by_cases c74 : (t393.length : Int) = 0
      ·
       rw [if_pos c74] at H
       have c74b0 : ((t393.length : Int) == 0) = true := beq_iff_eq.mpr c74
       have c74b1 : ((t393.length : Int) != 0) = false := bne_eq_false_iff_eq.mpr c74
       clear c74
       by_cases c75 : t396 = t397
       ·
        rw [if_pos c75] at H
        have c75b0 : (t396 == t397) = true := beq_iff_eq.mpr c75
        have c75b1 : (t396 != t397) = false := bne_eq_false_iff_eq.mpr c75
        clear c75
        replace H := Option.bind_eq_some_iff.mp H
        obtain ⟨t398, A760, H⟩ := H
        replace H : (some t398) = some r := H
        have A76 := Aside0.mk A760
        clear A760
        obtain rfl := Option.some.inj H
        have hnb77 := NB385_386.out
        have hnc77 := NB386_385.out
        have hcz78_0 := blkc BK385.out 0 (.int .i64 a0_0) rfl
        have hcz78_1 := blkc BK385.out 1 (.slice A0_1 l0_1.length c0_1) rfl
        have hcz78_2 := blkc BK385.out 2 (.slice A0_2 l0_2.length c0_2) rfl
        have hfz78_0 := blk_frozen BK385.out 0
        have hfz78_1 := blk_frozen BK385.out 1
        have hfz78_2 := blk_frozen BK385.out 2
        have hcz79_0 := blkc BK386.out 0 (.int .i64 a1_0) rfl
        have hcz79_1 := blkc BK386.out 1 (.int .i64 a1_1) rfl
        have hfz79_0 := blk_frozen BK386.out 0
        have hfz79_1 := blk_frozen BK386.out 1
        go_wp2_with (first | ((with_reducible refine gate_callee (f := 24) rfl ?_); refine goesL_ (some 51) rfl rfl Tryd.func24 (by kernel_rfl) rfl #[.agg #[.int .i64 a0_0, .slice A0_1 l0_1.length c0_1, .slice A0_2 l0_2.length c0_2], .int .i64 a1_0, .int .i64 a1_1] rfl mapz ?_; (with_reducible refine (feed_Isolate.calls kj14 a0_0 _ _ l0_1 _ _ l0_2 a1_0 a1_1 t393 t396 _ ?side1 ?side2 ?side3 ?side4 ?sideT A29.out).mono ?_); (case sideT => first | exact HT.out | exact Tab.Tabs.below HT.out bel | (with_reducible repeat (first | exact HT.out | apply Tab.Tabs.alloc | apply Tab.Tabs.drewN | apply Tab.Tabs.drew))); (case side1 => exact cbz HR0_1); (case side2 => exact HC0_1.out); (case side3 => exact cbz HR0_2); (case side4 => exact HC0_2.out); rintro e w80 ⟨v394, rfl, ho0, hb⟩; refine ⟨_, rfl, ?_⟩; have n0_ := Aside0.mk (Kd.R_lower ho0 (below_size bel)); have n1_ := Aside0.mk (blk_below (g := gb385) blkz hb); have n2_ := Aside0.mk (blk_below (g := gb386) blkz hb); have n3_ := Aside0.mk (below_step bel hb); clear BK385; clear BK386; clear HB; have HO395 := n0_; have BK385 := n1_; have BK386 := n2_; have HB := n3_; clear n0_ n1_ n2_ n3_; (try clear hb); (try clear hb2); (try clear hk); (try clear hi); (try clear ho0); have hcz81_0 := blkc BK385.out 0 (.int .i64 a0_0) rfl; have hcz81_1 := blkc BK385.out 1 (.slice A0_1 l0_1.length c0_1) rfl; have hcz81_2 := blkc BK385.out 2 (.slice A0_2 l0_2.length c0_2) rfl; have hfz81_0 := blk_frozen BK385.out 0; have hfz81_1 := blk_frozen BK385.out 1; have hfz81_2 := blk_frozen BK385.out 2; have hcz82_0 := blkc BK386.out 0 (.int .i64 a1_0) rfl; have hcz82_1 := blkc BK386.out 1 (.int .i64 a1_1) rfl; have hfz82_0 := blk_frozen BK386.out 0; have hfz82_1 := blk_frozen BK386.out 1) | ((with_reducible refine gate_callee (f := 25) rfl ?_); refine goesL_ (some 59) rfl rfl Tryd.func25 (by kernel_rfl) rfl #[.agg #[.int .i64 a0_0, .slice A0_1 l0_1.length c0_1, .slice A0_2 l0_2.length c0_2], .int .i64 a1_0, .int .i64 a1_1] rfl mapz ?_; (with_reducible refine (dropperref05_Why.calls kj14 a0_0 _ _ l0_1 _ _ l0_2 a1_0 a1_1 t397 _ ?side1 ?side2 ?side3 ?side4 A30.out).mono ?_); (case side1 => exact cbz HR0_1); (case side2 => exact HC0_1.out); (case side3 => exact cbz HR0_2); (case side4 => exact HC0_2.out); rintro e w83 ⟨rfl, hb⟩; refine ⟨_, rfl, ?_⟩; have n0_ := Aside0.mk (Kd.R_below (by (with_reducible repeat (first | apply Kd.R_alloc | apply Kd.R_drewN | apply Kd.R_drew)); exact HO395.out) hb); have n1_ := Aside0.mk (blk_below (g := gb385) blkz hb); have n2_ := Aside0.mk (blk_below (g := gb386) blkz hb); have n3_ := Aside0.mk (below_step bel hb); clear HO395; clear BK385; clear BK386; clear HB; have HO395 := n0_; have BK385 := n1_; have BK386 := n2_; have HB := n3_; clear n0_ n1_ n2_ n3_; (try clear hb); (try clear hb2); (try clear hk); (try clear hi); obtain ⟨Ao84, co84, eo84⟩ := Kd.R_slice HO395.out; subst eo84) | (go_at_call 12; (with_reducible refine (dropperlaw05_First.calls kj14  t398 _ ?sideT A76.out).mono ?_); (case sideT => first | exact HT.out | exact Tab.Tabs.below HT.out bel | (with_reducible repeat (first | exact HT.out | apply Tab.Tabs.alloc | apply Tab.Tabs.drewN | apply Tab.Tabs.drew))); rintro e w85 ⟨rfl, hb⟩; have n0_ := Aside0.mk (Kd.R_below (by (with_reducible repeat (first | apply Kd.R_alloc | apply Kd.R_drewN | apply Kd.R_drew)); exact HO395.out) hb); have n1_ := Aside0.mk (blk_below (g := gb385) blkz hb); have n2_ := Aside0.mk (blk_below (g := gb386) blkz hb); have n3_ := Aside0.mk (below_step bel hb); clear HO395; clear BK385; clear BK386; clear HB; have HO395 := n0_; have BK385 := n1_; have BK386 := n2_; have HB := n3_; clear n0_ n1_ n2_ n3_; (try clear hb); (try clear hb2); (try clear hk); (try clear hi)))
        go_ret
        exact ⟨by first | rfl | (simp [errW_none, errW_some] <;> rfl) | (simp [*, errW_none, errW_some] <;> rfl), by repeat (first | (with_reducible first | exact HB.out | apply below_alloc | apply pw_below_drewN | apply below_drew1 | refine below_set ?_ GE385.out | refine below_set ?_ GE386.out) | exact HB.out)⟩
       ·
        rw [if_neg c75] at H
        exact absurd H (by simp)
      ·
       rw [if_neg c74] at H
       exact absurd H (by simp)

end Go.Proofs.YtoilhnmdemnknaaDoor.XFeed

-- Written by wip/xprint.py of this repo, over the kit's print.py: out of the translation; the oracles in it are by hand. Not trusted: Lean checks it.
namespace Go.Proofs.YtoilhnmdemnknaaDoor.XFeed
open Go.RowKit Go.Proofs.YtoilhnmdemnknaaDoor.XFeed Go.Proofs.YtoilhnmdemnknaaDoorW.PrintWords Go.Proofs.YtoilhnmdemnknaaDoorW.PrintLast Go.Proofs.YtoilhnmdemnknaaDoorW.PrintMore
/-- THE ONE PURE STATEMENT of dropperlaw05_FeedIsolates. -/
def dropperlaw05_FeedIsolates.Pure : Prop := ∀ (a0_0 : Int) (l0_1 : List (S69)) (l0_2 : List (S71)) (a1_0 : Int) (a1_1 : Int) (l2 : List Int), ((Lit.int .i64 a0_0).wf = true) → (l0_1.length ≤ 9223372036854775807 ∧ ∀ y0 ∈ l0_1, ((Lit.int .i64 y0.f0).wf = true) ∧ ((Lit.int .i64 y0.f1).wf = true)) → (l0_2.length ≤ 9223372036854775807 ∧ ∀ y0 ∈ l0_2, ((Lit.int .i64 y0.f0).wf = true) ∧ ((Lit.int .i64 y0.f1).wf = true)) → ((Lit.int .i64 a1_0).wf = true) → ((Lit.int .i64 a1_1).wf = true) → (l2.length ≤ 9223372036854775807 ∧ ∀ y0 ∈ l2, (Lit.int .i64 y0).wf = true) → ∃ k, dropperlaw05_FeedIsolates.f k a0_0 l0_1 l0_2 a1_0 a1_1 l2 = some true
end Go.Proofs.YtoilhnmdemnknaaDoor.XFeed

-- Written by wip/xprint.py of this repo, over the kit's print.py: out of the translation; the oracles in it are by hand. Not trusted: Lean checks it.
namespace Go.Proofs.YtoilhnmdemnknaaDoor.XFeed
open Go.RowKit Go.Proofs.YtoilhnmdemnknaaDoorW.PrintWords Go.Proofs.YtoilhnmdemnknaaDoorW.PrintLast Go.Proofs.YtoilhnmdemnknaaDoorW.PrintMore
attribute [local go_sem] max2_int min2_int max_two min_two max_three min_three max_four min_four   -- for this text's walks alone
set_option linter.unusedVariables false
set_option linter.unusedSimpArgs false

/-! ### dropperref05_right: function 51 -/
def dropperref05_right.l0 : Nat → List Int → Int → Int → List (S69) → List (S71) → Option (Bool)
 | 0, _, _, _, _, _ => none
 | k + 1, x5, x6, x290000, x290001, x290002 => if x6 < x290000 then (if 0 ≤ x6 then (if x6 < (x5.length : Int) then (if (rd x5 x6) < 0 then (some false) else (dropperref05_right.l0 k x5 (wrap64 (x6 + 1)) x290000 x290001 x290002)) else (none)) else (none)) else (some true)
def dropperref05_right.f (k : Nat) (a0_0 : Int) (l0_1 : List (S69)) (l0_2 : List (S71)) (a1 : Int) : Option (Bool) := (dropperref05_live.f k a0_0 l0_1 l0_2 a1).bind fun t290 => (dropperref05_right.l0 k t290 0 a0_0 l0_1 l0_2)
end Go.Proofs.YtoilhnmdemnknaaDoor.XFeed

-- Written by wip/xprint.py of this repo, over the kit's print.py: out of the translation; the oracles in it are by hand. Not trusted: Lean checks it.
namespace Go.Proofs.YtoilhnmdemnknaaDoor.XFeed
open Go.RowKit Go.Proofs.YtoilhnmdemnknaaDoorW.PrintWords Go.Proofs.YtoilhnmdemnknaaDoorW.PrintLast Go.Proofs.YtoilhnmdemnknaaDoorW.PrintMore
attribute [local go_sem] max2_int min2_int max_two min_two max_three min_three max_four min_four   -- for this text's walks alone
set_option linter.unusedVariables false
set_option linter.unusedSimpArgs false

/-! ### dropperref05_States: function 18 -/
def dropperref05_States.l0 : Nat → Int → Int → Int → List (S69) → List (S71) → Option (Int × Int)
 | 0, _, _, _, _, _ => none
 | k + 1, x4, x5, x298000, x298001, x298002 => if x5 < (shl .i64 1 (x298001.length : Int)) then ((dropperref05_right.f k x298000 x298001 x298002 x5).bind fun t299 => (if t299 = true then (dropperref05_States.l0 k (wrap64 (x4 + 1)) (wrap64 (x5 + 1)) x298000 x298001 x298002) else (dropperref05_States.l0 k x4 (wrap64 (x5 + 1)) x298000 x298001 x298002))) else (some (x4, 0))
def dropperref05_States.f (k : Nat) (a0_0 : Int) (l0_1 : List (S69)) (l0_2 : List (S71)) : Option (Int × Int) := (dropperref05_Valid.f k a0_0 l0_1 l0_2).bind fun t298 => (if t298 = true then (dropperref05_States.l0 k 0 0 a0_0 l0_1 l0_2) else (some (0, 50)))
end Go.Proofs.YtoilhnmdemnknaaDoor.XFeed

-- Written by wip/xprint.py of this repo, over the kit's print.py: out of the translation; the oracles in it are by hand. Not trusted: Lean checks it.
namespace Go.Proofs.YtoilhnmdemnknaaDoor.XFeed
open Go.RowKit Go.Proofs.YtoilhnmdemnknaaDoorW.PrintWords Go.Proofs.YtoilhnmdemnknaaDoorW.PrintLast Go.Proofs.YtoilhnmdemnknaaDoorW.PrintMore
attribute [local go_sem] max2_int min2_int max_two min_two max_three min_three max_four min_four   -- for this text's walks alone
set_option linter.unusedVariables false
set_option linter.unusedSimpArgs false

/-! ### dropperref05_Live: function 14 -/
end Go.Proofs.YtoilhnmdemnknaaDoor.XFeed

-- Written by wip/xprint.py of this repo, over the kit's print.py: out of the translation; the oracles in it are by hand. Not trusted: Lean checks it.
namespace Go.Proofs.YtoilhnmdemnknaaDoor.XFeed
open Go.RowKit Go.Proofs.YtoilhnmdemnknaaDoorW.PrintWords Go.Proofs.YtoilhnmdemnknaaDoorW.PrintLast Go.Proofs.YtoilhnmdemnknaaDoorW.PrintMore
attribute [local go_sem] max2_int min2_int max_two min_two max_three min_three max_four min_four   -- for this text's walks alone
set_option linter.unusedVariables false
set_option linter.unusedSimpArgs false

/-! ### dropperref05_Right: function 16 -/
end Go.Proofs.YtoilhnmdemnknaaDoor.XFeed

-- Written by wip/xprint.py of this repo, over the kit's print.py: out of the translation; the oracles in it are by hand. Not trusted: Lean checks it.
namespace Go.Proofs.YtoilhnmdemnknaaDoor.XFeed
open Go.RowKit Go.Proofs.YtoilhnmdemnknaaDoorW.PrintWords Go.Proofs.YtoilhnmdemnknaaDoorW.PrintLast Go.Proofs.YtoilhnmdemnknaaDoorW.PrintMore
attribute [local go_sem] max2_int min2_int max_two min_two max_three min_three max_four min_four   -- for this text's walks alone
set_option linter.unusedVariables false
set_option linter.unusedSimpArgs false

/-! ### feed_Live: function 13 -/
end Go.Proofs.YtoilhnmdemnknaaDoor.XFeed

-- Written by wip/xprint.py of this repo, over the kit's print.py: out of the translation; the oracles in it are by hand. Not trusted: Lean checks it.
namespace Go.Proofs.YtoilhnmdemnknaaDoor.XFeed
open Go.RowKit Go.Proofs.YtoilhnmdemnknaaDoorW.PrintWords Go.Proofs.YtoilhnmdemnknaaDoorW.PrintLast Go.Proofs.YtoilhnmdemnknaaDoorW.PrintMore
attribute [local go_sem] max2_int min2_int max_two min_two max_three min_three max_four min_four   -- for this text's walks alone
set_option linter.unusedVariables false
set_option linter.unusedSimpArgs false

/-! ### feed_Right: function 15 -/
end Go.Proofs.YtoilhnmdemnknaaDoor.XFeed

-- Written by wip/xprint.py of this repo, over the kit's print.py: out of the translation; the oracles in it are by hand. Not trusted: Lean checks it.
namespace Go.Proofs.YtoilhnmdemnknaaDoor.XFeed
open Go.RowKit Go.Proofs.YtoilhnmdemnknaaDoorW.PrintWords Go.Proofs.YtoilhnmdemnknaaDoorW.PrintLast Go.Proofs.YtoilhnmdemnknaaDoorW.PrintMore
attribute [local go_sem] max2_int min2_int max_two min_two max_three min_three max_four min_four   -- for this text's walks alone
set_option linter.unusedVariables false
set_option linter.unusedSimpArgs false

/-! ### dropperlaw05_SameInts: function 21 -/
def dropperlaw05_SameInts.l0 : Nat → List Int → List Int → Int → Option (Bool)
 | 0, _, _, _ => none
 | k + 1, x0, x1, x5 => if x5 < (x0.length : Int) then (if 0 ≤ x5 then (if x5 < (x1.length : Int) then (if (rd x0 x5) = (rd x1 x5) then (dropperlaw05_SameInts.l0 k x0 x1 (wrap64 (x5 + 1))) else (some false)) else (none)) else (none)) else (some true)
end Go.Proofs.YtoilhnmdemnknaaDoor.XFeed

/- Go's bit operations on small numbers, as those of Nat. -/
namespace Go.Proofs.YtoilhnmdemnknaaDoor.Plain
open Go.RowKit Go.Proofs.YtoilhnmdemnknaaDoorW.PrintWords Go.Proofs.YtoilhnmdemnknaaDoorW.PrintLast Go.Proofs.YtoilhnmdemnknaaDoorW.PrintMore

theorem wrapU {n : Nat} (h : n < 2 ^ 62) : IntKind.u64.wrap (n : Int) = (n : Int) := by
  have e : IntKind.u64.wrap (n : Int) = (n : Int) % 18446744073709551616 := by simp [IntKind.wrap, IntKind.bits, IntKind.signed]
  rw [e]; omega
theorem wrapI {n : Nat} (h : n < 2 ^ 62) : IntKind.i64.wrap (n : Int) = (n : Int) := by
  rw [IntKind.wrap_i64]; omega
theorem ofInt_nat {w n : Nat} : BitVec.ofInt w (n : Int) = BitVec.ofNat w n := by simp
theorem and_u {x y : Nat} (hx : x < 2 ^ 62) (hy : y < 2 ^ 62) : Go.bits .and .u64 (x : Int) (y : Int) = ((x &&& y : Nat) : Int) := by
  have h : x &&& y < 2 ^ 62 := Nat.and_lt_two_pow x hy
  simp only [Go.bits, ofInt_nat, BitVec.toNat_and, BitVec.toNat_ofNat]
  rw [show IntKind.u64.bits = 64 from rfl, Nat.mod_eq_of_lt (show x < 2 ^ 64 by omega), Nat.mod_eq_of_lt (show y < 2 ^ 64 by omega)]
  exact wrapU h
theorem or_u {x y : Nat} (hx : x < 2 ^ 62) (hy : y < 2 ^ 62) : Go.bits .or .u64 (x : Int) (y : Int) = ((x ||| y : Nat) : Int) := by
  have h : x ||| y < 2 ^ 62 := Nat.or_lt_two_pow hx hy
  simp only [Go.bits, ofInt_nat, BitVec.toNat_or, BitVec.toNat_ofNat]
  rw [show IntKind.u64.bits = 64 from rfl, Nat.mod_eq_of_lt (show x < 2 ^ 64 by omega), Nat.mod_eq_of_lt (show y < 2 ^ 64 by omega)]
  exact wrapU h
theorem and_i {x y : Nat} (hx : x < 2 ^ 62) (hy : y < 2 ^ 62) : Go.bits .and .i64 (x : Int) (y : Int) = ((x &&& y : Nat) : Int) := by
  have h : x &&& y < 2 ^ 62 := Nat.and_lt_two_pow x hy
  simp only [Go.bits, ofInt_nat, BitVec.toNat_and, BitVec.toNat_ofNat]
  rw [show IntKind.i64.bits = 64 from rfl, Nat.mod_eq_of_lt (show x < 2 ^ 64 by omega), Nat.mod_eq_of_lt (show y < 2 ^ 64 by omega)]
  exact wrapI h
theorem shr_k {k : IntKind} (hk : k.bits = 64) {x i : Nat} (hi : i ≤ 64) : shr k (x : Int) (i : Int) = ((x >>> i : Nat) : Int) := by
  unfold shr
  rw [hk, Int.toNat_natCast, Nat.min_eq_left hi, Nat.shiftRight_eq_div_pow]
  simp
theorem shl_u {x i : Nat} (h : x * 2 ^ i < 2 ^ 62) (hi : i ≤ 64) : shl .u64 (x : Int) (i : Int) = ((x <<< i : Nat) : Int) := by
  unfold shl
  rw [show IntKind.u64.bits = 64 from rfl, Int.toNat_natCast, Nat.min_eq_left hi, Nat.shiftLeft_eq]
  have e : (x : Int) * 2 ^ i = ((x * 2 ^ i : Nat) : Int) := by simp
  rw [e]; exact wrapU h
theorem shl_i {x i : Nat} (h : x * 2 ^ i < 2 ^ 62) (hi : i ≤ 64) : shl .i64 (x : Int) (i : Int) = ((x <<< i : Nat) : Int) := by
  unfold shl
  rw [show IntKind.i64.bits = 64 from rfl, Int.toNat_natCast, Nat.min_eq_left hi, Nat.shiftLeft_eq]
  have e : (x : Int) * 2 ^ i = ((x * 2 ^ i : Nat) : Int) := by simp
  rw [e]; exact wrapI h
/-- a bit, as the code asks for it -/
theorem bit_u {x i : Nat} (hx : x < 2 ^ 62) (hi : i ≤ 64) : Go.bits .and .u64 (shr .u64 (x : Int) (i : Int)) 1 = (if x.testBit i then 1 else 0 : Int) := by
  have h : x >>> i < 2 ^ 62 := Nat.lt_of_le_of_lt (by rw [Nat.shiftRight_eq_div_pow]; exact Nat.div_le_self _ _) hx
  rw [shr_k rfl hi, show (1 : Int) = ((1 : Nat) : Int) from rfl, and_u h (by omega), Nat.testBit, Nat.and_comm]
  have : 1 &&& x >>> i = (x >>> i) % 2 := by rw [Nat.and_comm, Nat.and_one_is_mod]
  rw [this]
  rcases Nat.mod_two_eq_zero_or_one (x >>> i) with h | h <;> simp [h]
theorem bit_i {x i : Nat} (hx : x < 2 ^ 62) (hi : i ≤ 64) : Go.bits .and .i64 (shr .i64 (x : Int) (i : Int)) 1 = (if x.testBit i then 1 else 0 : Int) := by
  have h : x >>> i < 2 ^ 62 := Nat.lt_of_le_of_lt (by rw [Nat.shiftRight_eq_div_pow]; exact Nat.div_le_self _ _) hx
  rw [shr_k rfl hi, show (1 : Int) = ((1 : Nat) : Int) from rfl, and_i h (by omega), Nat.testBit, Nat.and_comm]
  have : 1 &&& x >>> i = (x >>> i) % 2 := by rw [Nat.and_comm, Nat.and_one_is_mod]
  rw [this]
  rcases Nat.mod_two_eq_zero_or_one (x >>> i) with h | h <;> simp [h]
end Go.Proofs.YtoilhnmdemnknaaDoor.Plain
