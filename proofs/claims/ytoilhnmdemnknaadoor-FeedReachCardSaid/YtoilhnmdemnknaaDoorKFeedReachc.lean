-- Written by wip/pack.py of this repo: texts of this claim, put together.
import Derived.Test.YtoilhnmdemnknaaDoorKFeedReachb
namespace Go.Proofs.YtoilhnmdemnknaaDoor.XFeed
open Go.RowKit Go.Proofs.YtoilhnmdemnknaaDoorW.PrintWords Go.Proofs.YtoilhnmdemnknaaDoorW.PrintLast Go.Proofs.YtoilhnmdemnknaaDoorW.PrintMore
attribute [local go_sem] max2_int min2_int max_two min_two max_three min_three max_four min_four   -- for this text's walks alone
set_option linter.unusedVariables false
set_option linter.unusedSimpArgs false
/-! ### feed_States: function 17 -/
def feed_States.l0 : Nat → Int → Int → Int → Int → List (S69) → List (S71) → Option (Int × Int)
 | 0, _, _, _, _, _, _ => none
 | k + 1, x6, x17, x18, x156000, x156001, x156002 => if x18 < x17 then ((feed_grid_right.f k x156000 x156001 x156002 x18).bind fun t157 => (if t157 = true then (feed_States.l0 k (wrap64 (x6 + 1)) x17 (wrap64 (x18 + 1)) x156000 x156001 x156002) else (feed_States.l0 k x6 x17 (wrap64 (x18 + 1)) x156000 x156001 x156002))) else (some (x6, 0))
def feed_States.f (k : Nat) (a0_0 : Int) (l0_1 : List (S69)) (l0_2 : List (S71)) : Option (Int × Int) := (feed_open.f a0_0 l0_1 l0_2 0).bind fun bt147 => (if bt147.2 = 0 then ((feed_grid_all.f bt147.1 l0_1 l0_2).bind fun t156 => (feed_States.l0 k 0 t156 0 bt147.1 l0_1 l0_2)) else (some (0, bt147.2)))
theorem feed_States.mono_l : ∀ k, (∀ y0 y1 y2 y3 y4 y5, LeO (feed_States.l0 k y0 y1 y2 y3 y4 y5) (feed_States.l0 (k + 1) y0 y1 y2 y3 y4 y5))
 | 0 => fun _ _ _ _ _ _ r h => by simp [feed_States.l0] at h
 | k + 1 => by
  have ih0 := feed_States.mono_l k
  ·
   intro y0 y1 y2 y3 y4 y5
   unfold feed_States.l0
   repeat' first
   | (with_reducible exact ih0 _ _ _ _ _ _)
   | (with_reducible exact feed_grid_right.mono _ _ _ _ _)
   | (with_reducible exact LeO.refl _)
   | (with_reducible exact LeO.none _)
   | (with_reducible refine LeO.ite ?_ ?_)
   | (with_reducible refine LeO.bind ?_ (fun _ => ?_))
   | exact ih0 _ _ _ _ _ _
   | exact feed_grid_right.mono _ _ _ _ _
   | exact LeO.none _
   | refine LeO.ite ?_ ?_
   | refine LeO.bind ?_ (fun _ => ?_)
theorem feed_States.mono : ∀ a0 a1 a2 k, LeO (feed_States.f k a0 a1 a2) (feed_States.f (k + 1) a0 a1 a2) := by
 intro a0 a1 a2 k
 have ih0 := feed_States.mono_l k
 unfold feed_States.f
 repeat' first
   | (with_reducible exact ih0 _ _ _ _ _ _)
   | (with_reducible exact feed_grid_right.mono _ _ _ _ _)
   | (with_reducible exact LeO.refl _)
   | (with_reducible exact LeO.none _)
   | (with_reducible refine LeO.ite ?_ ?_)
   | (with_reducible refine LeO.bind ?_ (fun _ => ?_))
   | exact ih0 _ _ _ _ _ _
   | exact feed_grid_right.mono _ _ _ _ _
   | exact LeO.none _
   | refine LeO.ite ?_ ?_
   | refine LeO.bind ?_ (fun _ => ?_)
set_option maxHeartbeats 8000000 in
set_option maxRecDepth 100000 in
theorem feed_States.calls (k : Nat) (a0_0 : Int) (A0_1 : Option Addr) (c0_1 : Nat) (l0_1 : List (S69)) (A0_2 : Option Addr) (c0_2 : Nat) (l0_2 : List (S71)) (r1 : Int) (r2 : Int) (w : World) (hr0_1 : Kd.C k69 w A0_1 l0_1.length l0_1) (hc0_1 : l0_1.length ≤ c0_1) (hr0_2 : Kd.C k71 w A0_2 l0_2.length l0_2) (hc0_2 : l0_2.length ≤ c0_2) (hT : Tab.Tabs w) (h : feed_States.f k a0_0 l0_1 l0_2 = some (r1, r2)) :
  Calls Tryd.prog 17 #[.agg #[.int .i64 a0_0, .slice A0_1 l0_1.length c0_1, .slice A0_2 l0_2.length c0_2]] w fun e w' => e = .returned (.tuple #[.int .i64 r1, .int .i64 r2]) ∧ Below w.heap.size w w' := by
 have HT := Aside0.mk hT
 clear hT
 have hu25 := Tryd.underlying25
 have hu73 := Tryd.underlying73
 have HR0_1 := Aside0.mk hr0_1
 have HC0_1 := Aside0.mk hc0_1
 clear hr0_1 hc0_1
 have HR0_2 := Aside0.mk hr0_2
 have HC0_2 := Aside0.mk hc0_2
 clear hr0_2 hc0_2
 have HB := Aside0.mk (Below.refl w.heap.size w)
 have H : ((feed_open.f a0_0 l0_1 l0_2 0).bind fun bt147 => (if bt147.2 = 0 then ((feed_grid_all.f bt147.1 l0_1 l0_2).bind fun t156 => (feed_States.l0 k 0 t156 0 bt147.1 l0_1 l0_2)) else (some (0, bt147.2)))) = some (r1, r2) := h
 clear h
 replace H := Option.bind_eq_some_iff.mp H
 obtain ⟨⟨t147, t154⟩, A20, H⟩ := H
 replace H : (if t154 = 0 then ((feed_grid_all.f t147 l0_1 l0_2).bind fun t156 => (feed_States.l0 k 0 t156 0 t147 l0_1 l0_2)) else (some (0, t154))) = some (r1, r2) := H
 have A2 := Aside0.mk A20
 clear A20
 by_cases c3 : t154 = 0
 ·
  rw [if_pos c3] at H
  have c3b0 : (t154 == 0) = true := beq_iff_eq.mpr c3
  have c3b1 : (t154 != 0) = false := bne_eq_false_iff_eq.mpr c3
  clear c3
  replace H := Option.bind_eq_some_iff.mp H
  obtain ⟨t156, A40, H⟩ := H
  replace H : (feed_States.l0 k 0 t156 0 t147 l0_1 l0_2) = some (r1, r2) := H
  have A4 := Aside0.mk A40
  clear A40
  have H' := Aside0.mk H
  clear H
  go_enter Tryd.func17, Tryd.ntmps17
  go_wp2_with (first | ((with_reducible refine gate_dst (N := 1) rfl ?_); refine box_event ?hg (N := 1) ?hd (cs := #[.int .i64 a0_0, .slice A0_1 l0_1.length c0_1, .slice A0_2 l0_2.length c0_2]) (t := 25) ?hr ?_; (case hd => rfl); (case hg => rfl); (case hr => first | (go_simp; done) | (go_simp; rfl)); intro gb146 hg w5 hbox hb; have BK146 := Aside0.mk (hbox); have GW146 := bsz (w := w) hg; have GE146 := GW146; replace HB := Aside0.mk (below_step bel hb); clear hb hbox hg; have hcz6_0 := blkc BK146.out 0 (.int .i64 a0_0) rfl; have hcz6_1 := blkc BK146.out 1 (.slice A0_1 l0_1.length c0_1) rfl; have hcz6_2 := blkc BK146.out 2 (.slice A0_2 l0_2.length c0_2) rfl) | ((with_reducible refine gate_callee (f := 46) rfl ?_); refine goesL_ (some 10) rfl rfl Tryd.func46 (by kernel_rfl) rfl #[.agg #[.int .i64 a0_0, .slice A0_1 l0_1.length c0_1, .slice A0_2 l0_2.length c0_2], .int .i64 0] rfl mapz ?_; (with_reducible refine (feed_open.calls a0_0 _ _ l0_1 _ _ l0_2 0 t147 t154 _ ?side1 ?side2 ?side3 ?side4 A2.out).mono ?_); (case side1 => exact cbz HR0_1); (case side2 => exact HC0_1.out); (case side3 => exact cbz HR0_2); (case side4 => exact HC0_2.out); rintro e w7 ⟨rfl, hb⟩; refine ⟨_, rfl, ?_⟩; replace BK146 := Aside0.mk (blk_below (g := gb146) blkz hb); replace HB := Aside0.mk (below_step bel hb); (try clear hb); (try clear hb2); (try clear hk); (try clear hi)) | ((with_reducible refine gate_dst (N := 4) rfl ?_); refine box_event ?hg (N := 4) ?hd (cs := #[.int .i64 0, .slice none 0 0, .slice none 0 0]) (t := 73) ?hr ?_; (case hd => rfl); (case hg => rfl); (case hr => first | (go_simp; done) | (go_simp; rfl)); intro gb155 hg w8 hbox hb; have BK155 := Aside0.mk (hbox); have GW155 := bsz (w := w) hg; have GE155 := GW155; have NB146_155 := neL (g := gb146) hg; have NB155_146 := neR (g := gb146) hg; replace BK146 := Aside0.mk (blk_below (g := gb146) blkz hb); replace HB := Aside0.mk (below_step bel hb); clear hb hbox hg; have hnb9 := NB155_146.out; have hnc9 := NB146_155.out; have hcz10_0 := blkc BK155.out 0 (.int .i64 0) rfl; have hcz10_1 := blkc BK155.out 1 (.slice none 0 0) rfl; have hcz10_2 := blkc BK155.out 2 (.slice none 0 0) rfl; have hfz10_0 := blk_frozen BK155.out 0; have hfz10_1 := blk_frozen BK155.out 1; have hfz10_2 := blk_frozen BK155.out 2) | ((with_reducible refine gate_callee (f := 52) rfl ?_); refine goesL_ (some 17) rfl rfl Tryd.func52 (by kernel_rfl) rfl #[.agg #[.int .i64 t147, .slice A0_1 l0_1.length c0_1, .slice A0_2 l0_2.length c0_2]] rfl mapz ?_; (with_reducible refine (feed_grid_all.calls t147 _ _ l0_1 _ _ l0_2 t156 _ ?side1 ?side2 ?side3 ?side4 A4.out).mono ?_); (case side1 => exact cbz HR0_1); (case side2 => exact HC0_1.out); (case side3 => exact cbz HR0_2); (case side4 => exact HC0_2.out); rintro e w11 ⟨rfl, hb⟩; refine ⟨_, rfl, ?_⟩; replace BK146 := Aside0.mk (blk_below (g := gb146) (o := .cells #[.int .i64 a0_0, .slice A0_1 l0_1.length c0_1, .slice A0_2 l0_2.length c0_2] 25 (0, 0)) (by (with_reducible repeat (first | refine blk_drewN ?_ _ | refine blk_drew ?_ | refine blk_alloc ?_ _)); refine blk_far ?_ NB146_155.out _; (with_reducible repeat (first | refine blk_drewN ?_ _ | refine blk_drew ?_ | refine blk_alloc ?_ _)); refine blk_far ?_ NB146_155.out _; (with_reducible repeat (first | refine blk_drewN ?_ _ | refine blk_drew ?_ | refine blk_alloc ?_ _)); refine blk_far ?_ NB146_155.out _; (with_reducible repeat (first | refine blk_drewN ?_ _ | refine blk_drew ?_ | refine blk_alloc ?_ _)); exact BK146.out) hb); replace BK155 := Aside0.mk (blk_below (g := gb155) (o := .cells #[.int .i64 t147, .slice A0_1 l0_1.length c0_1, .slice A0_2 l0_2.length c0_2] 73 (0, 0)) (by (with_reducible repeat (first | refine blk_drewN ?_ _ | refine blk_drew ?_ | refine blk_alloc ?_ _)); refine blk_put (cs := #[.int .i64 t147, .slice A0_1 l0_1.length c0_1, .slice none 0 0]) ?_ 2 _ rfl; (with_reducible repeat (first | refine blk_drewN ?_ _ | refine blk_drew ?_ | refine blk_alloc ?_ _)); refine blk_put (cs := #[.int .i64 t147, .slice none 0 0, .slice none 0 0]) ?_ 1 _ rfl; (with_reducible repeat (first | refine blk_drewN ?_ _ | refine blk_drew ?_ | refine blk_alloc ?_ _)); refine blk_put (cs := #[.int .i64 0, .slice none 0 0, .slice none 0 0]) ?_ 0 _ rfl; (with_reducible repeat (first | refine blk_drewN ?_ _ | refine blk_drew ?_ | refine blk_alloc ?_ _)); exact BK155.out) hb); replace HB := Aside0.mk (below_step bel hb); (try clear hb); (try clear hb2); (try clear hk); (try clear hi)))
  go_loopg [6, 18] k (fun kq v6 v18 w' => ∃ (x6_1 : Int) (x18_1 : Int), v6 = .int .i64 x6_1 ∧ v18 = .int .i64 x18_1 ∧ Aside0 (feed_States.l0 kq x6_1 t156 x18_1 t147 l0_1 l0_2 = some (r1, r2)) ∧ Aside0 (kq ≤ k) ∧ Aside0 (w'.heap[gb146]? = some (.cells #[.int .i64 a0_0, (.slice A0_1 l0_1.length c0_1), (.slice A0_2 l0_2.length c0_2)] 25 (0, 0))) ∧ Aside0 (w'.heap[gb155]? = some (.cells #[.int .i64 t147, (.slice A0_1 l0_1.length c0_1), (.slice A0_2 l0_2.length c0_2)] 73 (0, 0))) ∧ Aside0 (Below w.heap.size w w'))
  case atStart => exact ⟨(0), (0), rsz, rsz, H', ⟨Nat.le_refl _⟩, ⟨blkz⟩, ⟨blkz⟩, ⟨bel⟩⟩
  case round =>
   clear H'
   try clear c1
   try clear p2
   try clear c3
   try clear c3b0
   try clear c3b1
   try clear c4
   try clear c5
   try clear c9
   try clear hcz10_0
   try clear hcz10_1
   try clear hcz10_2
   try clear hcz6_0
   try clear hcz6_1
   try clear hcz6_2
   try clear hfz10_0
   try clear hfz10_1
   try clear hfz10_2
   try clear hfz6_0
   try clear hfz6_1
   try clear hfz6_2
   obtain ⟨x6_1, x18_1, rfl, rfl, HA, HK1, BK146, BK155, HB⟩ := hrel
   cases gk with
   | zero => exact absurd HA.out (by simp [feed_States.l0])
   | succ k1 =>
    have H := HA.out
    clear HA
    simp only [feed_States.l0] at H
    by_cases c12 : x18_1 < t156
    ·
     rw [if_pos c12] at H
     have c12b0 : decide (x18_1 < t156) = true := decide_eq_true c12
     clear c12
     replace H := Option.bind_eq_some_iff.mp H
     obtain ⟨t157, A130, H⟩ := H
     replace H : (if t157 = true then (feed_States.l0 k1 (wrap64 (x6_1 + 1)) t156 (wrap64 (x18_1 + 1)) t147 l0_1 l0_2) else (feed_States.l0 k1 x6_1 t156 (wrap64 (x18_1 + 1)) t147 l0_1 l0_2)) = some (r1, r2) := H
     have A13 := Aside0.mk A130
     clear A130
     by_cases c14 : t157 = true
     ·
      subst c14
      have H1 : (feed_States.l0 k1 (wrap64 (x6_1 + 1)) t156 (wrap64 (x18_1 + 1)) t147 l0_1 l0_2) = some (r1, r2) := by rw [if_pos rfl] at H; exact H
      clear H
      have H := H1
      clear H1
      have H' := Aside0.mk H
      clear H
      have hnb15 := NB155_146.out
      have hnc15 := NB146_155.out
      have hcz16_0 := blkc BK155.out 0 (.int .i64 t147) rfl
      have hcz16_1 := blkc BK155.out 1 (.slice A0_1 l0_1.length c0_1) rfl
      have hcz16_2 := blkc BK155.out 2 (.slice A0_2 l0_2.length c0_2) rfl
      have hfz16_0 := blk_frozen BK155.out 0
      have hfz16_1 := blk_frozen BK155.out 1
      have hfz16_2 := blk_frozen BK155.out 2
      go_wp2_with (first | ((with_reducible refine gate_callee (f := 50) rfl ?_); refine goesL_ (some 23) rfl rfl Tryd.func50 (by kernel_rfl) rfl #[.agg #[.int .i64 t147, .slice A0_1 l0_1.length c0_1, .slice A0_2 l0_2.length c0_2], .int .i64 x18_1] rfl mapz ?_; (with_reducible refine (feed_grid_right.calls k1 t147 _ _ l0_1 _ _ l0_2 x18_1 true _ ?side1 ?side2 ?side3 ?side4 ?sideT A13.out).mono ?_); (case sideT => first | exact HT.out | exact Tab.Tabs.below HT.out bel | (with_reducible repeat (first | exact HT.out | apply Tab.Tabs.alloc | apply Tab.Tabs.drewN | apply Tab.Tabs.drew))); (case side1 => exact cbz HR0_1); (case side2 => exact HC0_1.out); (case side3 => exact cbz HR0_2); (case side4 => exact HC0_2.out); rintro e w17 ⟨rfl, hb⟩; refine ⟨_, rfl, ?_⟩; replace BK146 := Aside0.mk (blk_below (g := gb146) blkz hb); replace BK155 := Aside0.mk (blk_below (g := gb155) blkz hb); replace HB := Aside0.mk (below_step bel hb); (try clear hb); (try clear hb2); (try clear hk); (try clear hi)))
      go_roundg k1
      case measure => have := HK1.out; omega
      case rel => exact ⟨(wrap64 (x6_1 + 1)), (wrap64 (x18_1 + 1)), rsz, rsz, H', ⟨by have := HK1.out; omega⟩, ⟨blkz⟩, ⟨blkz⟩, ⟨bel⟩⟩
     ·
      replace c14 := Bool.eq_false_iff.mpr c14
      subst c14
      have H1 : (feed_States.l0 k1 x6_1 t156 (wrap64 (x18_1 + 1)) t147 l0_1 l0_2) = some (r1, r2) := by rw [if_neg (show ¬ (false = true) by decide)] at H; exact H
      clear H
      have H := H1
      clear H1
      have H' := Aside0.mk H
      clear H
      have hnb18 := NB155_146.out
      have hnc18 := NB146_155.out
      have hcz19_0 := blkc BK155.out 0 (.int .i64 t147) rfl
      have hcz19_1 := blkc BK155.out 1 (.slice A0_1 l0_1.length c0_1) rfl
      have hcz19_2 := blkc BK155.out 2 (.slice A0_2 l0_2.length c0_2) rfl
      have hfz19_0 := blk_frozen BK155.out 0
      have hfz19_1 := blk_frozen BK155.out 1
      have hfz19_2 := blk_frozen BK155.out 2
      go_wp2_with (first | ((with_reducible refine gate_callee (f := 50) rfl ?_); refine goesL_ (some 23) rfl rfl Tryd.func50 (by kernel_rfl) rfl #[.agg #[.int .i64 t147, .slice A0_1 l0_1.length c0_1, .slice A0_2 l0_2.length c0_2], .int .i64 x18_1] rfl mapz ?_; (with_reducible refine (feed_grid_right.calls k1 t147 _ _ l0_1 _ _ l0_2 x18_1 false _ ?side1 ?side2 ?side3 ?side4 ?sideT A13.out).mono ?_); (case sideT => first | exact HT.out | exact Tab.Tabs.below HT.out bel | (with_reducible repeat (first | exact HT.out | apply Tab.Tabs.alloc | apply Tab.Tabs.drewN | apply Tab.Tabs.drew))); (case side1 => exact cbz HR0_1); (case side2 => exact HC0_1.out); (case side3 => exact cbz HR0_2); (case side4 => exact HC0_2.out); rintro e w20 ⟨rfl, hb⟩; refine ⟨_, rfl, ?_⟩; replace BK146 := Aside0.mk (blk_below (g := gb146) blkz hb); replace BK155 := Aside0.mk (blk_below (g := gb155) blkz hb); replace HB := Aside0.mk (below_step bel hb); (try clear hb); (try clear hb2); (try clear hk); (try clear hi)))
      go_roundg k1
      case measure => have := HK1.out; omega
      case rel => exact ⟨(x6_1), (wrap64 (x18_1 + 1)), rsz, rsz, H', ⟨by have := HK1.out; omega⟩, ⟨blkz⟩, ⟨blkz⟩, ⟨bel⟩⟩
    ·
     rw [if_neg c12] at H
     have c12b0 : decide (x18_1 < t156) = false := decide_eq_false c12
     clear c12
     simp only [Option.some.injEq, Prod.mk.injEq] at H
     obtain ⟨rfl, rfl⟩ := H
     go_wp2
     go_ret2
     exact ⟨ezz, bel⟩
 ·
  rw [if_neg c3] at H
  have c3b0 : (t154 == 0) = false := beq_eq_false_iff_ne.mpr c3
  have c3b1 : (t154 != 0) = true := bne_iff_ne.mpr c3
  simp only [Option.some.injEq, Prod.mk.injEq] at H
  obtain ⟨rfl, rfl⟩ := H
  go_enter Tryd.func17, Tryd.ntmps17
  go_wp2_with (first | ((with_reducible refine gate_dst (N := 1) rfl ?_); refine box_event ?hg (N := 1) ?hd (cs := #[.int .i64 a0_0, .slice A0_1 l0_1.length c0_1, .slice A0_2 l0_2.length c0_2]) (t := 25) ?hr ?_; (case hd => rfl); (case hg => rfl); (case hr => first | (go_simp; done) | (go_simp; rfl)); intro gb146 hg w21 hbox hb; have BK146 := Aside0.mk (hbox); have GW146 := bsz (w := w) hg; have GE146 := GW146; replace HB := Aside0.mk (below_step bel hb); clear hb hbox hg; have hcz22_0 := blkc BK146.out 0 (.int .i64 a0_0) rfl; have hcz22_1 := blkc BK146.out 1 (.slice A0_1 l0_1.length c0_1) rfl; have hcz22_2 := blkc BK146.out 2 (.slice A0_2 l0_2.length c0_2) rfl) | ((with_reducible refine gate_callee (f := 46) rfl ?_); refine goesL_ (some 10) rfl rfl Tryd.func46 (by kernel_rfl) rfl #[.agg #[.int .i64 a0_0, .slice A0_1 l0_1.length c0_1, .slice A0_2 l0_2.length c0_2], .int .i64 0] rfl mapz ?_; (with_reducible refine (feed_open.calls a0_0 _ _ l0_1 _ _ l0_2 0 t147 t154 _ ?side1 ?side2 ?side3 ?side4 A2.out).mono ?_); (case side1 => exact cbz HR0_1); (case side2 => exact HC0_1.out); (case side3 => exact cbz HR0_2); (case side4 => exact HC0_2.out); rintro e w23 ⟨rfl, hb⟩; refine ⟨_, rfl, ?_⟩; replace BK146 := Aside0.mk (blk_below (g := gb146) blkz hb); replace HB := Aside0.mk (below_step bel hb); (try clear hb); (try clear hb2); (try clear hk); (try clear hi)) | ((with_reducible refine gate_dst (N := 4) rfl ?_); refine box_event ?hg (N := 4) ?hd (cs := #[.int .i64 0, .slice none 0 0, .slice none 0 0]) (t := 73) ?hr ?_; (case hd => rfl); (case hg => rfl); (case hr => first | (go_simp; done) | (go_simp; rfl)); intro gb155 hg w24 hbox hb; have BK155 := Aside0.mk (hbox); have GW155 := bsz (w := w) hg; have GE155 := GW155; have NB146_155 := neL (g := gb146) hg; have NB155_146 := neR (g := gb146) hg; replace BK146 := Aside0.mk (blk_below (g := gb146) blkz hb); replace HB := Aside0.mk (below_step bel hb); clear hb hbox hg; have hnb25 := NB155_146.out; have hnc25 := NB146_155.out; have hcz26_0 := blkc BK155.out 0 (.int .i64 0) rfl; have hcz26_1 := blkc BK155.out 1 (.slice none 0 0) rfl; have hcz26_2 := blkc BK155.out 2 (.slice none 0 0) rfl; have hfz26_0 := blk_frozen BK155.out 0; have hfz26_1 := blk_frozen BK155.out 1; have hfz26_2 := blk_frozen BK155.out 2))
  go_ret2
  exact ⟨ezz, bel⟩

/-! ### slices_ContainsFunc_int_int: function 86 -/
theorem slices_ContainsFunc_int_int.rd_get (l : List Int) (x : Int) (h0 : 0 ≤ x) (h1 : x < (l.length : Int)) : ∃ h : x.toNat < l.length, rd l x = l[x.toNat] := by
 have h : x.toNat < l.length := by omega
 exact ⟨h, by simp [rd, List.getD_eq_getElem?_getD, h]⟩
set_option maxHeartbeats 2000000 in
set_option maxRecDepth 100000 in
theorem slices_ContainsFunc_int_int.index (c : Nat) (cs : Array Value) (p : Int → Bool) (A0 : Option Addr) (c0 : Nat) (l0 : List Int) (w : World) (hr0 : Kd.C (Kd.int .i64) w A0 l0.length l0) (hc0 : l0.length ≤ c0)
  (he : ∀ (vs : Array Value) (W : World), (callFunc c vs).run Tryd.prog W = .ok (.enter c vs) W)
  (hf : ∀ (x : Int), x ∈ l0 → ∀ (W : World), Below w.heap.size w W → Calls Tryd.prog c (#[.int .i64 x] ++ cs) W fun e w' => e = .returned (.bool (p x)) ∧ Below W.heap.size W w') :
  Calls Tryd.prog 107 #[.slice A0 l0.length c0, .func (.func c) #[] cs] w fun e w' => e = .returned (.int .i64 (Idx.idxFrom p l0)) ∧ Below w.heap.size w w' := by
 have hl : l0.length ≤ 9223372036854775807 := hr0.2.1
 have HR := Aside0.mk hr0
 have HF := Aside0.mk hf
 clear hr0 hf
 go_enter Tryd.func107, Tryd.ntmps107
 go_wp2
 go_loopg [5, 8] l0.length (fun kq v5 v8 w' => ∃ x : Int, v8 = .int .i64 x ∧ Aside0 (0 ≤ x ∧ x ≤ l0.length ∧ ∀ j (h : j < l0.length), (j : Int) < x → p l0[j] = false) ∧ Aside0 (kq = l0.length - x.toNat) ∧ Aside0 (Below w.heap.size w w'))
 case atStart => exact ⟨0, rfl, ⟨by omega, by omega, fun _ _ h => by omega⟩, ⟨rfl⟩, ⟨Below.refl _ _⟩⟩
 case round =>
  obtain ⟨x, rfl, HI, HK, HB⟩ := hrel
  by_cases hlt : x < (l0.length : Int)
  ·
   have h1 : decide (x < (l0.length : Int)) = true := decide_eq_true hlt
   have p1 : 0 ≤ x := HI.out.1
   have HR0 := Aside0.mk (Kd.C_below HR.out HB.out)
   obtain ⟨ad, e1, hx0⟩ := Kd.at_int HR0.out x p1 hlt
   cases e1
   have HX := Aside0.mk (And.intro p1 hlt)
   have HM : Aside0 ((rd l0 x) ∈ l0) := ⟨by obtain ⟨h2, h3⟩ := slices_ContainsFunc_int_int.rd_get l0 x p1 hlt; rw [h3]; exact List.getElem_mem h2⟩
   replace p1 := eq_true p1
   replace hlt := eq_true hlt
   by_cases hp : p (rd l0 x) = true
   ·
    go_wp2_with (go_simp; with_reducible refine (HF.out (rd l0 x) HM.out _ HB.out).mono ?_; rintro e w' ⟨rfl, hb⟩; have HB2 := Aside0.mk hb; clear hb)
    go_ret
    obtain ⟨h2, h3⟩ := slices_ContainsFunc_int_int.rd_get l0 x HX.out.1 HX.out.2
    rw [h3] at hp
    refine ⟨?_, below_step HB.out HB2.out⟩
    rw [Idx.idxFrom_at h2 hp (fun j hj hl => HI.out.2.2 j hj (by omega)), Int.toNat_of_nonneg HX.out.1]; rfl
   ·
    replace hp := Bool.eq_false_iff.mpr hp
    go_wp2_with (go_simp; with_reducible refine (HF.out (rd l0 x) HM.out _ HB.out).mono ?_; rintro e w' ⟨rfl, hb⟩; have HB2 := Aside0.mk hb; clear hb)
    go_roundg (l0.length - (x + 1).toNat)
    case measure => have := HX.out; have := HK.out; omega
    case rel =>
     obtain ⟨h2, h3⟩ := slices_ContainsFunc_int_int.rd_get l0 x HX.out.1 HX.out.2
     have hw : wrap64 (x + 1) = x + 1 := by unfold wrap64; have := HX.out; omega
     refine ⟨x + 1, by first | rfl | rw [hw], ⟨by have := HX.out; omega, by have := HX.out; omega, fun j hj hl => ?_⟩, ⟨rfl⟩, ⟨below_step HB.out HB2.out⟩⟩
     by_cases hjx : (j : Int) < x
     ·
      exact HI.out.2.2 j hj hjx
     ·
      have : j = x.toNat := by omega
      subst this
      rw [← h3]; exact hp
  ·
   have h1 : decide (x < (l0.length : Int)) = false := decide_eq_false hlt
   go_wp2
   go_ret
   refine ⟨?_, HB.out⟩
   rw [Idx.idxFrom_none (fun j hj hl => HI.out.2.2 j hj (by omega))]; rfl
theorem slices_ContainsFunc_int_int.contains (c : Nat) (cs : Array Value) (p : Int → Bool) (A0 : Option Addr) (c0 : Nat) (l0 : List Int) (w : World) (hr0 : Kd.C (Kd.int .i64) w A0 l0.length l0) (hc0 : l0.length ≤ c0)
  (he : ∀ (vs : Array Value) (W : World), (callFunc c vs).run Tryd.prog W = .ok (.enter c vs) W)
  (hf : ∀ (x : Int), x ∈ l0 → ∀ (W : World), Below w.heap.size w W → Calls Tryd.prog c (#[.int .i64 x] ++ cs) W fun e w' => e = .returned (.bool (p x)) ∧ Below W.heap.size W w') :
  Calls Tryd.prog 86 #[.slice A0 l0.length c0, .func (.func c) #[] cs] w fun e w' => e = .returned (.bool (l0.any p)) ∧ Below w.heap.size w w' := by
 have HR0 := Aside0.mk hr0
 have HF := Aside0.mk hf
 clear hr0 hf
 have hz := Aside0.mk (Idx.idx_ge p l0)
 go_enter Tryd.func86, Tryd.ntmps86
 go_wp2_with (go_at_call 107; refine (slices_ContainsFunc_int_int.index c cs p _ _ l0 _ HR0.out hc0 he HF.out).mono ?_; rintro e w' ⟨rfl, hb⟩; have HB := Aside0.mk hb; clear hb)
 go_ret
 exact ⟨by rw [← hz.out]; rfl, HB.out⟩

/-! ### feed_grid_section: function 65 -/
theorem feed_grid_section.within_calls (a b c : Int) (w : World) :
  Calls Tryd.prog 53 #[.int .i64 a, .int .i64 b, .int .i64 c] w fun e w' => e = .returned (.bool (decide (a ≤ b) && decide (b ≤ c))) ∧ Drawn0 w w' := by
 by_cases h1 : a ≤ b
 ·
  have h1' : decide (a ≤ b) = true := decide_eq_true h1
  go_enter Tryd.func53, Tryd.ntmps53
  go_wp2
  go_ret
  exact ⟨by simp [h1], Drawn0.refl _⟩
 ·
  have h1' : decide (a ≤ b) = false := decide_eq_false h1
  go_enter Tryd.func53, Tryd.ntmps53
  go_wp2
  go_ret
  exact ⟨by simp [h1], Drawn0.refl _⟩
def feed_grid_section.bad (n : Int) (x : Int) : Bool := !(decide (0 ≤ x) && decide (x ≤ wrap64 (n - 1)))
set_option maxHeartbeats 2000000 in
set_option maxRecDepth 100000 in
theorem feed_grid_section.clos (n : Int) (g : Nat) (x : Int) (w : World) (hcap : w.cell? ⟨g, 0, none⟩ = some (.int .i64 n)) :
  Calls Tryd.prog 94 #[.int .i64 x, .pointer (some ⟨g, 0, none⟩)] w fun e w' => e = .returned (.bool (feed_grid_section.bad n x)) ∧ Below w.heap.size w w' := by
 have hu0 := Tryd.underlying73
 have hu1 := Tryd.underlying25
 by_cases h0 : (decide (0 ≤ x) && decide (x ≤ wrap64 (n - 1))) = true
 ·
  skip
  have hE : Aside0 ((feed_grid_section.bad n x) = false) := ⟨by simp only [feed_grid_section.bad, h0, Bool.not_true, Bool.false_or]⟩
  have H0 := Aside0.mk h0
  clear h0
  go_enter Tryd.func94, Tryd.ntmps94
  go_wp2_with (first | (go_at_call 53; (with_reducible refine (feed_grid_section.within_calls 0 (x) (wrap64 (n - 1)) _).mono ?_); rintro e w' ⟨rfl, ⟨nd_, rfl⟩⟩; rw [H0.out]))
  go_ret
  exact ⟨by rw [hE.out]; rfl, by repeat (first | exact Below.refl _ _ | apply pw_below_drewN)⟩
 ·
  replace h0 := Bool.eq_false_iff.mpr h0
  have hE : Aside0 ((feed_grid_section.bad n x) = true) := ⟨by simp only [feed_grid_section.bad, h0, Bool.not_true, Bool.not_false, Bool.false_or, Bool.true_or]⟩
  have H0 := Aside0.mk h0
  clear h0
  go_enter Tryd.func94, Tryd.ntmps94
  go_wp2_with (first | (go_at_call 53; (with_reducible refine (feed_grid_section.within_calls 0 (x) (wrap64 (n - 1)) _).mono ?_); rintro e w' ⟨rfl, ⟨nd_, rfl⟩⟩; rw [H0.out]))
  go_ret
  exact ⟨by rw [hE.out]; rfl, by repeat (first | exact Below.refl _ _ | apply pw_below_drewN)⟩
theorem feed_grid_section.enter (vs : Array Value) (W : World) : (callFunc 94 vs).run Tryd.prog W = .ok (.enter 94 vs) W := enters_ Tryd.func94 (by kernel_rfl) (by kernel_rfl) vs W
def feed_grid_section.f (a0_0 : Int) (l0_1 : List S69) (l0_2 : List S71) (l1 : List Int) : Option Int := some (if l1.any (feed_grid_section.bad a0_0) then 2 else 0)
set_option maxHeartbeats 4000000 in
set_option maxRecDepth 100000 in
theorem feed_grid_section.calls (a0_0 : Int) (A0_1 : Option Addr) (c0_1 : Nat) (l0_1 : List S69) (A0_2 : Option Addr) (c0_2 : Nat) (l0_2 : List S71) (A1 : Option Addr) (c1 : Nat) (l1 : List Int) (r : Int) (w : World) (hr0_1 : Kd.C k69 w A0_1 l0_1.length l0_1) (hc0_1 : l0_1.length ≤ c0_1) (hr0_2 : Kd.C k71 w A0_2 l0_2.length l0_2) (hc0_2 : l0_2.length ≤ c0_2) (hr1 : Kd.C (Kd.int .i64) w A1 l1.length l1) (hc1 : l1.length ≤ c1) (h : feed_grid_section.f a0_0 l0_1 l0_2 l1 = some r) :
  Calls Tryd.prog 65 #[.agg #[.int .i64 a0_0, .slice A0_1 l0_1.length c0_1, .slice A0_2 l0_2.length c0_2], .slice A1 l1.length c1] w fun e w' => e = .returned (.int .i64 r) ∧ Below w.heap.size w w' := by
 have hu := Tryd.underlying25
 have hu2 := Tryd.underlying73
 have HR1 := Aside0.mk hr0_1
 have HR2 := Aside0.mk hr0_2
 clear hr0_1 hr0_2
 have HR := Aside0.mk hr1
 clear hr1
 have hB0 : Aside0 (Below w.heap.size w (w.alloc (.cells #[.int .i64 a0_0, .slice A0_1 l0_1.length c0_1, .slice A0_2 l0_2.length c0_2] 73))) := ⟨below_alloc (Below.refl _ _) _⟩
 have hB1 : Aside0 (Below (w.alloc (.cells #[.int .i64 a0_0, .slice A0_1 l0_1.length c0_1, .slice A0_2 l0_2.length c0_2] 73)).heap.size (w.alloc (.cells #[.int .i64 a0_0, .slice A0_1 l0_1.length c0_1, .slice A0_2 l0_2.length c0_2] 73)) (w.alloc (.cells #[.int .i64 a0_0, .slice A0_1 l0_1.length c0_1, .slice A0_2 l0_2.length c0_2] 73))) := ⟨Below.refl _ _⟩
 have hcell : Aside0 (∀ W, Below (w.alloc (.cells #[.int .i64 a0_0, .slice A0_1 l0_1.length c0_1, .slice A0_2 l0_2.length c0_2] 73)).heap.size (w.alloc (.cells #[.int .i64 a0_0, .slice A0_1 l0_1.length c0_1, .slice A0_2 l0_2.length c0_2] 73)) W → ∀ j, W.cell? ⟨w.heap.size, j, none⟩ = (#[.int .i64 a0_0, .slice A0_1 l0_1.length c0_1, .slice A0_2 l0_2.length c0_2] : Array Value)[j]?) := ⟨fun W hb j => by
  rw [hb.cell (by show w.heap.size < (w.heap.push _).size; rw [Array.size_push]; omega), World.cell?_alloc_at _ _ _ _ rfl]⟩
 obtain rfl := Option.some.inj h
 clear h
 by_cases h3 : l1.any (feed_grid_section.bad a0_0) = true
 ·
  rw [if_pos h3]
  have H3 := Aside0.mk h3
  clear h3
  go_enter Tryd.func65, Tryd.ntmps65
  go_wp2_with (go_at_call 86; (refine (slices_ContainsFunc_int_int.contains 94 #[.pointer (some ⟨w.heap.size, 0, none⟩)] (feed_grid_section.bad a0_0) A1 c1 l1 _ (Kd.C_below HR.out hB0.out) hc1 feed_grid_section.enter (fun x _ W hb => feed_grid_section.clos a0_0 w.heap.size x W (hcell.out W (below_step hB1.out hb) 0))).mono ?_); rintro e w' ⟨rfl, hb⟩; have HB := Aside0.mk (below_step hB0.out hb); clear hb; rw [H3.out])
  go_ret
  exact ⟨rfl, HB.out⟩
 ·
  replace h3 := Bool.eq_false_iff.mpr h3
  rw [if_neg (by rw [h3]; decide)]
  have H3 := Aside0.mk h3
  clear h3
  go_enter Tryd.func65, Tryd.ntmps65
  go_wp2_with (go_at_call 86; (refine (slices_ContainsFunc_int_int.contains 94 #[.pointer (some ⟨w.heap.size, 0, none⟩)] (feed_grid_section.bad a0_0) A1 c1 l1 _ (Kd.C_below HR.out hB0.out) hc1 feed_grid_section.enter (fun x _ W hb => feed_grid_section.clos a0_0 w.heap.size x W (hcell.out W (below_step hB1.out hb) 0))).mono ?_); rintro e w' ⟨rfl, hb⟩; have HB := Aside0.mk (below_step hB0.out hb); clear hb; rw [H3.out])
  go_ret
  exact ⟨rfl, HB.out⟩

/-! ### feed_asked: function 59 -/
def feed_asked.f (a0_0 : Int) (l0_1 : List (S69)) (l0_2 : List (S71)) (a1 : Int) (a2 : Int) : Option (Int × Int) := (feed_open.f a0_0 l0_1 l0_2 a1).bind fun bt160 => (if bt160.2 = 0 then ((feed_grid_section.f bt160.1 l0_1 l0_2 (([a2] : List Int))).bind fun t172 => (some (bt160.1, t172))) else (some (bt160.1, bt160.2)))
set_option maxHeartbeats 8000000 in
set_option maxRecDepth 100000 in
theorem feed_asked.calls (a0_0 : Int) (A0_1 : Option Addr) (c0_1 : Nat) (l0_1 : List (S69)) (A0_2 : Option Addr) (c0_2 : Nat) (l0_2 : List (S71)) (a1 : Int) (a2 : Int) (r1 : Int) (r2 : Int) (w : World) (hr0_1 : Kd.C k69 w A0_1 l0_1.length l0_1) (hc0_1 : l0_1.length ≤ c0_1) (hr0_2 : Kd.C k71 w A0_2 l0_2.length l0_2) (hc0_2 : l0_2.length ≤ c0_2) (h : feed_asked.f a0_0 l0_1 l0_2 a1 a2 = some (r1, r2)) :
  Calls Tryd.prog 59 #[.agg #[.int .i64 a0_0, .slice A0_1 l0_1.length c0_1, .slice A0_2 l0_2.length c0_2], .int .i64 a1, .int .i64 a2] w fun e w' => e = .returned (.tuple #[.agg #[.int .i64 r1, .slice A0_1 l0_1.length c0_1, .slice A0_2 l0_2.length c0_2], .int .i64 r2]) ∧ Below w.heap.size w w' := by
 have hu25 := Tryd.underlying25
 have hu73 := Tryd.underlying73
 have HR0_1 := Aside0.mk hr0_1
 have HC0_1 := Aside0.mk hc0_1
 clear hr0_1 hc0_1
 have HR0_2 := Aside0.mk hr0_2
 have HC0_2 := Aside0.mk hc0_2
 clear hr0_2 hc0_2
 have HB := Aside0.mk (Below.refl w.heap.size w)
 have H : ((feed_open.f a0_0 l0_1 l0_2 a1).bind fun bt160 => (if bt160.2 = 0 then ((feed_grid_section.f bt160.1 l0_1 l0_2 (([a2] : List Int))).bind fun t172 => (some (bt160.1, t172))) else (some (bt160.1, bt160.2)))) = some (r1, r2) := h
 clear h
 replace H := Option.bind_eq_some_iff.mp H
 obtain ⟨⟨t160, t167⟩, A40, H⟩ := H
 replace H : (if t167 = 0 then ((feed_grid_section.f t160 l0_1 l0_2 (([a2] : List Int))).bind fun t172 => (some (t160, t172))) else (some (t160, t167))) = some (r1, r2) := H
 have A4 := Aside0.mk A40
 clear A40
 by_cases c5 : t167 = 0
 ·
  rw [if_pos c5] at H
  have c5b0 : (t167 == 0) = true := beq_iff_eq.mpr c5
  have c5b1 : (t167 != 0) = false := bne_eq_false_iff_eq.mpr c5
  clear c5
  obtain ⟨y169, hy169⟩ : ∃ y_ : List Int, y_ = (([a2] : List Int)) := ⟨_, rfl⟩
  replace H : ((feed_grid_section.f t160 l0_1 l0_2 y169).bind fun t172 => (some (t160, t172))) = some (r1, r2) := by first | (rw [hy169]; with_reducible exact H) | (have H2_ := (Option.bind_some _ _).symm.trans H; rw [hy169]; with_reducible exact H2_) | (have H2_ := (Option.bind_some _ _).symm.trans H; with_reducible exact H2_) | with_reducible exact H | (rw [hy169]; exact H) | exact H
  have Ny169 := Aside0.mk hy169
  clear hy169
  replace H := Option.bind_eq_some_iff.mp H
  obtain ⟨t172, A60, H⟩ := H
  replace H : (some (t160, t172)) = some (r1, r2) := H
  have A6 := Aside0.mk A60
  clear A60
  simp only [Option.some.injEq, Prod.mk.injEq] at H
  obtain ⟨rfl, rfl⟩ := H
  go_enter Tryd.func59, Tryd.ntmps59
  go_wp2_with (first | ((with_reducible refine gate_dst (N := 3) rfl ?_); refine box_event ?hg (N := 3) ?hd (cs := #[.int .i64 a0_0, .slice A0_1 l0_1.length c0_1, .slice A0_2 l0_2.length c0_2]) (t := 25) ?hr ?_; (case hd => rfl); (case hg => rfl); (case hr => first | (go_simp; done) | (go_simp; rfl)); intro gb158 hg w7 hbox hb; have BK158 := Aside0.mk (hbox); have GW158 := bsz (w := w) hg; have GE158 := GW158; replace HB := Aside0.mk (below_step bel hb); clear hb hbox hg) | ((with_reducible refine gate_dst (N := 6) rfl ?_); refine box_event ?hg (N := 6) ?hd (cs := #[.int .i64 0, .slice none 0 0, .slice none 0 0]) (t := 73) ?hr ?_; (case hd => rfl); (case hg => rfl); (case hr => first | (go_simp; done) | (go_simp; rfl)); intro gb159 hg w8 hbox hb; have BK159 := Aside0.mk (hbox); have GW159 := bsz (w := w) hg; have GE159 := GW159; have NB158_159 := neL (g := gb158) hg; have NB159_158 := neR (g := gb158) hg; replace BK158 := Aside0.mk (blk_below (g := gb158) blkz hb); replace HB := Aside0.mk (below_step bel hb); clear hb hbox hg; have hnb9 := NB158_159.out; have hnc9 := NB159_158.out; have hcz10_0 := blkc BK158.out 0 (.int .i64 a0_0) rfl; have hcz10_1 := blkc BK158.out 1 (.slice A0_1 l0_1.length c0_1) rfl; have hcz10_2 := blkc BK158.out 2 (.slice A0_2 l0_2.length c0_2) rfl) | ((with_reducible refine gate_callee (f := 46) rfl ?_); refine goesL_ (some 13) rfl rfl Tryd.func46 (by kernel_rfl) rfl #[.agg #[.int .i64 a0_0, .slice A0_1 l0_1.length c0_1, .slice A0_2 l0_2.length c0_2], .int .i64 a1] rfl mapz ?_; (with_reducible refine (feed_open.calls a0_0 _ _ l0_1 _ _ l0_2 a1 t160 t167 _ ?side1 ?side2 ?side3 ?side4 A4.out).mono ?_); (case side1 => exact cbz HR0_1); (case side2 => exact HC0_1.out); (case side3 => exact cbz HR0_2); (case side4 => exact HC0_2.out); rintro e w11 ⟨rfl, hb⟩; refine ⟨_, rfl, ?_⟩; replace BK158 := Aside0.mk (blk_below (g := gb158) blkz hb); replace BK159 := Aside0.mk (blk_below (g := gb159) blkz hb); replace HB := Aside0.mk (below_step bel hb); (try clear hb); (try clear hb2); (try clear hk); (try clear hi)) | ((with_reducible refine gate_dst (N := 8) rfl ?_); refine box_event ?hg (N := 8) ?hd (cs := #[.int .i64 0, .slice none 0 0, .slice none 0 0]) (t := 73) ?hr ?_; (case hd => rfl); (case hg => rfl); (case hr => first | (go_simp; done) | (go_simp; rfl)); intro gb168 hg w12 hbox hb; have BK168 := Aside0.mk (hbox); have GW168 := bsz (w := w) hg; have GE168 := GW168; have NB158_168 := neL (g := gb158) hg; have NB168_158 := neR (g := gb158) hg; have NB159_168 := neL (g := gb159) hg; have NB168_159 := neR (g := gb159) hg; replace BK158 := Aside0.mk (blk_below (g := gb158) blkz hb); replace BK159 := Aside0.mk (blk_below (g := gb159) blkz hb); replace HB := Aside0.mk (below_step bel hb); clear hb hbox hg; have hnb13 := NB168_158.out; have hnc13 := NB158_168.out; have hnb14 := NB168_159.out; have hnc14 := NB159_168.out; have hcz15_0 := blkc BK168.out 0 (.int .i64 0) rfl; have hcz15_1 := blkc BK168.out 1 (.slice none 0 0) rfl; have hcz15_2 := blkc BK168.out 2 (.slice none 0 0) rfl; have hfz15_0 := blk_frozen BK168.out 0; have hfz15_1 := blk_frozen BK168.out 1; have hfz15_2 := blk_frozen BK168.out 2) | ((with_reducible refine gate_dst (N := 20) rfl ?_); refine Kd.R_lit (Kd.int .i64) _ 3 ?hg (N := 20) ?hd (xs := ([a2] : List Int)) (inner := [.int .i64 a2]) (ok := fun _ => True) (okp := fun _ => True) ?hr ?hp (fun _ hk => hk) trivial (Below.refl _ _) (Nat.le_refl _) (by simp) ?_; (case hd => rfl); (case hg => rfl); (case hr => first | (go_simp; done) | (go_simp; rfl)); (case hp => exact (Reps.one (show Kd.M (Kd.int .i64) _ _ _ a2 [.int .i64 a2] from rfl) (Reps.none _ _))); intro v170 w16 ho17 hb hg_ hnew_; clear hg_ hnew_; (first | rw [← Ny169.out] at ho17 | (simp only [Int.reduceToNat] at ho17; rw [← Ny169.out] at ho17)); have HO171 := Aside0.mk (Kd.R_lower ho17 (below_size bel)); replace BK158 := Aside0.mk (blk_below (g := gb158) (o := .cells #[.int .i64 a0_0, .slice A0_1 l0_1.length c0_1, .slice A0_2 l0_2.length c0_2] 25 (0, 0)) (by (with_reducible repeat (first | refine blk_drewN ?_ _ | refine blk_drew ?_ | refine blk_alloc ?_ _)); refine blk_far ?_ NB158_168.out _; (with_reducible repeat (first | refine blk_drewN ?_ _ | refine blk_drew ?_ | refine blk_alloc ?_ _)); refine blk_far ?_ NB158_168.out _; (with_reducible repeat (first | refine blk_drewN ?_ _ | refine blk_drew ?_ | refine blk_alloc ?_ _)); refine blk_far ?_ NB158_168.out _; (with_reducible repeat (first | refine blk_drewN ?_ _ | refine blk_drew ?_ | refine blk_alloc ?_ _)); exact BK158.out) hb); replace BK159 := Aside0.mk (blk_below (g := gb159) (o := .cells #[.int .i64 0, .slice none 0 0, .slice none 0 0] 73 (0, 0)) (by (with_reducible repeat (first | refine blk_drewN ?_ _ | refine blk_drew ?_ | refine blk_alloc ?_ _)); refine blk_far ?_ NB159_168.out _; (with_reducible repeat (first | refine blk_drewN ?_ _ | refine blk_drew ?_ | refine blk_alloc ?_ _)); refine blk_far ?_ NB159_168.out _; (with_reducible repeat (first | refine blk_drewN ?_ _ | refine blk_drew ?_ | refine blk_alloc ?_ _)); refine blk_far ?_ NB159_168.out _; (with_reducible repeat (first | refine blk_drewN ?_ _ | refine blk_drew ?_ | refine blk_alloc ?_ _)); exact BK159.out) hb); replace BK168 := Aside0.mk (blk_below (g := gb168) (o := .cells #[.int .i64 t160, .slice A0_1 l0_1.length c0_1, .slice A0_2 l0_2.length c0_2] 73 (0, 0)) (by (with_reducible repeat (first | refine blk_drewN ?_ _ | refine blk_drew ?_ | refine blk_alloc ?_ _)); refine blk_put (cs := #[.int .i64 t160, .slice A0_1 l0_1.length c0_1, .slice none 0 0]) ?_ 2 _ rfl; (with_reducible repeat (first | refine blk_drewN ?_ _ | refine blk_drew ?_ | refine blk_alloc ?_ _)); refine blk_put (cs := #[.int .i64 t160, .slice none 0 0, .slice none 0 0]) ?_ 1 _ rfl; (with_reducible repeat (first | refine blk_drewN ?_ _ | refine blk_drew ?_ | refine blk_alloc ?_ _)); refine blk_put (cs := #[.int .i64 0, .slice none 0 0, .slice none 0 0]) ?_ 0 _ rfl; (with_reducible repeat (first | refine blk_drewN ?_ _ | refine blk_drew ?_ | refine blk_alloc ?_ _)); exact BK168.out) hb); replace HB := Aside0.mk (below_step bel hb); clear hb ho17; obtain ⟨Ao18, co18, eo18⟩ := Kd.R_slice HO171.out; subst eo18) | ((with_reducible refine gate_callee (f := 65) rfl ?_); refine goesL_ (some 21) rfl rfl Tryd.func65 (by kernel_rfl) rfl #[.agg #[.int .i64 t160, .slice A0_1 l0_1.length c0_1, .slice A0_2 l0_2.length c0_2], .slice Ao18 y169.length co18] rfl mapz ?_; (with_reducible refine (feed_grid_section.calls t160 _ _ l0_1 _ _ l0_2 _ _ y169 t172 _ ?side1 ?side2 ?side3 ?side4 ?side5 ?side6 A6.out).mono ?_); (case side1 => exact cbz HR0_1); (case side2 => exact HC0_1.out); (case side3 => exact cbz HR0_2); (case side4 => exact HC0_2.out); (case side5 => repeat (first | exact (Kd.R_reads' HO171.out).2.2 | (with_reducible refine Kd.C_alloc ?_ _) | (with_reducible refine Kd.C_drewN ?_ _) | (with_reducible refine Kd.C_drew ?_))); (case side6 => exact (Kd.R_reads' HO171.out).2.1); rintro e w19 ⟨rfl, hb⟩; refine ⟨_, rfl, ?_⟩; replace HO171 := Aside0.mk (Kd.R_below (ownx HO171) hb); replace BK158 := Aside0.mk (blk_below (g := gb158) blkz hb); replace BK159 := Aside0.mk (blk_below (g := gb159) blkz hb); replace BK168 := Aside0.mk (blk_below (g := gb168) blkz hb); replace HB := Aside0.mk (below_step bel hb); (try clear hb); (try clear hb2); (try clear hk); (try clear hi); have hcz20_0 := blkc BK168.out 0 (.int .i64 t160) rfl; have hcz20_1 := blkc BK168.out 1 (.slice A0_1 l0_1.length c0_1) rfl; have hcz20_2 := blkc BK168.out 2 (.slice A0_2 l0_2.length c0_2) rfl; have hfz20_0 := blk_frozen BK168.out 0; have hfz20_1 := blk_frozen BK168.out 1; have hfz20_2 := blk_frozen BK168.out 2; have hcz21_0 := blkc BK159.out 0 (.int .i64 0) rfl; have hcz21_1 := blkc BK159.out 1 (.slice none 0 0) rfl; have hcz21_2 := blkc BK159.out 2 (.slice none 0 0) rfl; have hfz21_0 := blk_frozen BK159.out 0; have hfz21_1 := blk_frozen BK159.out 1; have hfz21_2 := blk_frozen BK159.out 2))
  refine bodyPost_ret (results_ct rfl _ _ gb159 73 #[.int .i64 t160, .slice A0_1 l0_1.length c0_1, .slice A0_2 l0_2.length c0_2] (0, 0) _ rfl (by (with_reducible repeat (first | refine blk_drewN ?_ _ | refine blk_drew ?_ | refine blk_alloc ?_ _)); refine blk_put (cs := #[.int .i64 t160, .slice A0_1 l0_1.length c0_1, .slice none 0 0]) ?_ 2 _ rfl; (with_reducible repeat (first | refine blk_drewN ?_ _ | refine blk_drew ?_ | refine blk_alloc ?_ _)); refine blk_put (cs := #[.int .i64 t160, .slice none 0 0, .slice none 0 0]) ?_ 1 _ rfl; (with_reducible repeat (first | refine blk_drewN ?_ _ | refine blk_drew ?_ | refine blk_alloc ?_ _)); refine blk_put (cs := #[.int .i64 0, .slice none 0 0, .slice none 0 0]) ?_ 0 _ rfl; (with_reducible repeat (first | refine blk_drewN ?_ _ | refine blk_drew ?_ | refine blk_alloc ?_ _)); exact BK159.out) Tryd.underlying73 rfl (by kernel_rfl)) rfl ?_
  exact ⟨ezz, bel⟩
 ·
  rw [if_neg c5] at H
  have c5b0 : (t167 == 0) = false := beq_eq_false_iff_ne.mpr c5
  have c5b1 : (t167 != 0) = true := bne_iff_ne.mpr c5
  simp only [Option.some.injEq, Prod.mk.injEq] at H
  obtain ⟨rfl, rfl⟩ := H
  go_enter Tryd.func59, Tryd.ntmps59
  go_wp2_with (first | ((with_reducible refine gate_dst (N := 3) rfl ?_); refine box_event ?hg (N := 3) ?hd (cs := #[.int .i64 a0_0, .slice A0_1 l0_1.length c0_1, .slice A0_2 l0_2.length c0_2]) (t := 25) ?hr ?_; (case hd => rfl); (case hg => rfl); (case hr => first | (go_simp; done) | (go_simp; rfl)); intro gb158 hg w22 hbox hb; have BK158 := Aside0.mk (hbox); have GW158 := bsz (w := w) hg; have GE158 := GW158; replace HB := Aside0.mk (below_step bel hb); clear hb hbox hg) | ((with_reducible refine gate_dst (N := 6) rfl ?_); refine box_event ?hg (N := 6) ?hd (cs := #[.int .i64 0, .slice none 0 0, .slice none 0 0]) (t := 73) ?hr ?_; (case hd => rfl); (case hg => rfl); (case hr => first | (go_simp; done) | (go_simp; rfl)); intro gb159 hg w23 hbox hb; have BK159 := Aside0.mk (hbox); have GW159 := bsz (w := w) hg; have GE159 := GW159; have NB158_159 := neL (g := gb158) hg; have NB159_158 := neR (g := gb158) hg; replace BK158 := Aside0.mk (blk_below (g := gb158) blkz hb); replace HB := Aside0.mk (below_step bel hb); clear hb hbox hg; have hnb24 := NB158_159.out; have hnc24 := NB159_158.out; have hcz25_0 := blkc BK158.out 0 (.int .i64 a0_0) rfl; have hcz25_1 := blkc BK158.out 1 (.slice A0_1 l0_1.length c0_1) rfl; have hcz25_2 := blkc BK158.out 2 (.slice A0_2 l0_2.length c0_2) rfl) | ((with_reducible refine gate_callee (f := 46) rfl ?_); refine goesL_ (some 13) rfl rfl Tryd.func46 (by kernel_rfl) rfl #[.agg #[.int .i64 a0_0, .slice A0_1 l0_1.length c0_1, .slice A0_2 l0_2.length c0_2], .int .i64 a1] rfl mapz ?_; (with_reducible refine (feed_open.calls a0_0 _ _ l0_1 _ _ l0_2 a1 t160 t167 _ ?side1 ?side2 ?side3 ?side4 A4.out).mono ?_); (case side1 => exact cbz HR0_1); (case side2 => exact HC0_1.out); (case side3 => exact cbz HR0_2); (case side4 => exact HC0_2.out); rintro e w26 ⟨rfl, hb⟩; refine ⟨_, rfl, ?_⟩; replace BK158 := Aside0.mk (blk_below (g := gb158) blkz hb); replace BK159 := Aside0.mk (blk_below (g := gb159) blkz hb); replace HB := Aside0.mk (below_step bel hb); (try clear hb); (try clear hb2); (try clear hk); (try clear hi)) | ((with_reducible refine gate_dst (N := 8) rfl ?_); refine box_event ?hg (N := 8) ?hd (cs := #[.int .i64 0, .slice none 0 0, .slice none 0 0]) (t := 73) ?hr ?_; (case hd => rfl); (case hg => rfl); (case hr => first | (go_simp; done) | (go_simp; rfl)); intro gb168 hg w27 hbox hb; have BK168 := Aside0.mk (hbox); have GW168 := bsz (w := w) hg; have GE168 := GW168; have NB158_168 := neL (g := gb158) hg; have NB168_158 := neR (g := gb158) hg; have NB159_168 := neL (g := gb159) hg; have NB168_159 := neR (g := gb159) hg; replace BK158 := Aside0.mk (blk_below (g := gb158) blkz hb); replace BK159 := Aside0.mk (blk_below (g := gb159) blkz hb); replace HB := Aside0.mk (below_step bel hb); clear hb hbox hg; have hnb28 := NB168_158.out; have hnc28 := NB158_168.out; have hnb29 := NB168_159.out; have hnc29 := NB159_168.out; have hcz30_0 := blkc BK168.out 0 (.int .i64 0) rfl; have hcz30_1 := blkc BK168.out 1 (.slice none 0 0) rfl; have hcz30_2 := blkc BK168.out 2 (.slice none 0 0) rfl; have hfz30_0 := blk_frozen BK168.out 0; have hfz30_1 := blk_frozen BK168.out 1; have hfz30_2 := blk_frozen BK168.out 2; have hcz31_0 := blkc BK159.out 0 (.int .i64 0) rfl; have hcz31_1 := blkc BK159.out 1 (.slice none 0 0) rfl; have hcz31_2 := blkc BK159.out 2 (.slice none 0 0) rfl; have hfz31_0 := blk_frozen BK159.out 0; have hfz31_1 := blk_frozen BK159.out 1; have hfz31_2 := blk_frozen BK159.out 2))
  refine bodyPost_ret (results_ct rfl _ _ gb159 73 #[.int .i64 t160, .slice A0_1 l0_1.length c0_1, .slice A0_2 l0_2.length c0_2] (0, 0) _ rfl (by (with_reducible repeat (first | refine blk_drewN ?_ _ | refine blk_drew ?_ | refine blk_alloc ?_ _)); refine blk_put (cs := #[.int .i64 t160, .slice A0_1 l0_1.length c0_1, .slice none 0 0]) ?_ 2 _ rfl; (with_reducible repeat (first | refine blk_drewN ?_ _ | refine blk_drew ?_ | refine blk_alloc ?_ _)); refine blk_put (cs := #[.int .i64 t160, .slice none 0 0, .slice none 0 0]) ?_ 1 _ rfl; (with_reducible repeat (first | refine blk_drewN ?_ _ | refine blk_drew ?_ | refine blk_alloc ?_ _)); refine blk_put (cs := #[.int .i64 0, .slice none 0 0, .slice none 0 0]) ?_ 0 _ rfl; (with_reducible repeat (first | refine blk_drewN ?_ _ | refine blk_drew ?_ | refine blk_alloc ?_ _)); refine blk_far ?_ NB159_168.out _; (with_reducible repeat (first | refine blk_drewN ?_ _ | refine blk_drew ?_ | refine blk_alloc ?_ _)); refine blk_far ?_ NB159_168.out _; (with_reducible repeat (first | refine blk_drewN ?_ _ | refine blk_drew ?_ | refine blk_alloc ?_ _)); refine blk_far ?_ NB159_168.out _; (with_reducible repeat (first | refine blk_drewN ?_ _ | refine blk_drew ?_ | refine blk_alloc ?_ _)); exact BK159.out) Tryd.underlying73 rfl (by kernel_rfl)) rfl ?_
  exact ⟨ezz, bel⟩

/-! ### feed_grid_atHome: function 62 -/
def feed_grid_atHome.p (n : Int) (x : S71) : Bool := x.f0 == n
set_option maxHeartbeats 2000000 in
set_option maxRecDepth 100000 in
theorem feed_grid_atHome.clos (n : Int) (g : Nat) (x : S71) (w : World) (hcap : w.cell? ⟨g, 0, none⟩ = some (.int .i64 n)) :
  Calls Tryd.prog 93 #[.agg #[.int .i64 x.f0, .int .i64 x.f1], .pointer (some ⟨g, 0, none⟩)] w fun e w' => e = .returned (.bool (feed_grid_atHome.p n x)) ∧ Below w.heap.size w w' := by
 have hu := Tryd.underlying71
 have hB : ∀ o n, Aside0 (Below w.heap.size w ((w.alloc o).drewN n)) := fun o n => ⟨pw_below_drewN (below_alloc (Below.refl _ _) o) n⟩
 have hB0 : ∀ o, Aside0 (Below w.heap.size w (w.alloc o)) := fun o => ⟨below_alloc (Below.refl _ _) o⟩
 have hg : g < w.heap.size := by
  unfold World.cell? at hcap
  split at hcap
  ·
   rename_i h; exact (Array.getElem?_eq_some_iff.1 h).1
  ·
   cases hcap
 have hcap2 : ∀ o, (w.alloc o).cell? ⟨g, 0, none⟩ = some (.int .i64 n) := fun o => by rw [← hcap]; exact ((below_alloc (Below.refl w.heap.size w) o).cell hg)
 go_enter Tryd.func93, Tryd.ntmps93
 go_wp2
 go_ret
 exact ⟨rfl, by repeat (first | exact (hB _ _).out | exact (hB0 _).out | apply pw_below_drewN)⟩
theorem feed_grid_atHome.enter (vs : Array Value) (W : World) : (callFunc 93 vs).run Tryd.prog W = .ok (.enter 93 vs) W := enters_ Tryd.func93 (by kernel_rfl) (by kernel_rfl) vs W
def feed_grid_atHome.f (a0_0 : Int) (l0_1 : List S69) (l0_2 : List S71) (a1 : Int) : Option Bool := some (l0_2.any (feed_grid_atHome.p a1))
set_option maxHeartbeats 4000000 in
set_option maxRecDepth 100000 in
theorem feed_grid_atHome.calls (a0_0 : Int) (A0_1 : Option Addr) (c0_1 : Nat) (l0_1 : List S69) (A0_2 : Option Addr) (c0_2 : Nat) (l0_2 : List S71) (a1 : Int) (r : Bool) (w : World) (hr0_1 : Kd.C k69 w A0_1 l0_1.length l0_1) (hc0_1 : l0_1.length ≤ c0_1) (hr0_2 : Kd.C k71 w A0_2 l0_2.length l0_2) (hc0_2 : l0_2.length ≤ c0_2) (h : feed_grid_atHome.f a0_0 l0_1 l0_2 a1 = some r) :
  Calls Tryd.prog 62 #[.agg #[.int .i64 a0_0, .slice A0_1 l0_1.length c0_1, .slice A0_2 l0_2.length c0_2], .int .i64 a1] w fun e w' => e = .returned (.bool r) ∧ Below w.heap.size w w' := by
 have hu := Tryd.underlying25
 have hu2 := Tryd.underlying73
 have HR1 := Aside0.mk hr0_1
 have HR2 := Aside0.mk hr0_2
 clear hr0_1 hr0_2
 have hB0 : Aside0 (Below w.heap.size w ((w.alloc (.cells #[.int .i64 a0_0, .slice A0_1 l0_1.length c0_1, .slice A0_2 l0_2.length c0_2] 73)).alloc (.cells #[.int .i64 a1] 3))) := ⟨below_alloc (below_alloc (Below.refl _ _) _) _⟩
 have hs : (w.alloc (.cells #[.int .i64 a0_0, .slice A0_1 l0_1.length c0_1, .slice A0_2 l0_2.length c0_2] 73)).heap.size = w.heap.size + 1 := Array.size_push ..
 have hcell : Aside0 (∀ W, Below ((w.alloc (.cells #[.int .i64 a0_0, .slice A0_1 l0_1.length c0_1, .slice A0_2 l0_2.length c0_2] 73)).alloc (.cells #[.int .i64 a1] 3)).heap.size ((w.alloc (.cells #[.int .i64 a0_0, .slice A0_1 l0_1.length c0_1, .slice A0_2 l0_2.length c0_2] 73)).alloc (.cells #[.int .i64 a1] 3)) W → W.cell? ⟨w.heap.size + 1, 0, none⟩ = some (.int .i64 a1)) := ⟨fun W hb => by
  rw [hb.cell (by show w.heap.size + 1 < ((w.alloc (.cells #[.int .i64 a0_0, .slice A0_1 l0_1.length c0_1, .slice A0_2 l0_2.length c0_2] 73)).heap.push _).size; rw [Array.size_push]; omega), World.cell?_alloc_at _ _ _ _ hs.symm]; rfl⟩
 obtain rfl := Option.some.inj h
 clear h
 go_enter Tryd.func62, Tryd.ntmps62
 go_wp2_with (go_at_call 56; (refine (slices_ContainsFunc_api_Feeder_api_Feeder.contains 93 #[.pointer (some ⟨w.heap.size + 1, 0, none⟩)] (feed_grid_atHome.p a1) A0_2 c0_2 l0_2 _ (Kd.C_below HR2.out hB0.out) hc0_2 feed_grid_atHome.enter (fun x _ W hb => feed_grid_atHome.clos a1 (w.heap.size + 1) x W (hcell.out W hb))).mono ?_); rintro e w' ⟨rfl, hb⟩; have HB := Aside0.mk (below_step hB0.out hb); clear hb)
 go_ret
 exact ⟨rfl, HB.out⟩

/-! ### feed_list: function 63 -/
def feed_list.l0 : Nat → Int → List Int → Option (List Int)
 | 0, _, _ => none
 | k + 1, x0, x3 => if x0 > 0 then ((bits_TrailingZeros.f (IntKind.u64.wrap (x0))).bind fun t173 => (if x3.length < 17592186044416 then (feed_list.l0 k (Go.bits .and .i64 x0 (wrap64 (x0 - 1))) (x3 ++ [t173])) else (none))) else (some x3)
def feed_list.f (k : Nat) (a0 : Int) : Option (List Int) := feed_list.l0 k a0 ([] : List Int)
theorem feed_list.mono_l : ∀ k, (∀ y0 y1, LeO (feed_list.l0 k y0 y1) (feed_list.l0 (k + 1) y0 y1))
 | 0 => fun _ _ r h => by simp [feed_list.l0] at h
 | k + 1 => by
  have ih0 := feed_list.mono_l k
  ·
   intro y0 y1
   unfold feed_list.l0
   repeat' first
   | (with_reducible exact ih0 _ _)
   | (with_reducible exact LeO.refl _)
   | (with_reducible exact LeO.none _)
   | (with_reducible refine LeO.ite ?_ ?_)
   | (with_reducible refine LeO.bind ?_ (fun _ => ?_))
   | exact ih0 _ _
   | exact LeO.none _
   | refine LeO.ite ?_ ?_
   | refine LeO.bind ?_ (fun _ => ?_)
theorem feed_list.mono : ∀ a0 k, LeO (feed_list.f k a0) (feed_list.f (k + 1) a0) := by
 intro a0 k
 have ih0 := feed_list.mono_l k
 unfold feed_list.f
 repeat' first
   | (with_reducible exact ih0 _ _)
   | (with_reducible exact LeO.refl _)
   | (with_reducible exact LeO.none _)
   | (with_reducible refine LeO.ite ?_ ?_)
   | (with_reducible refine LeO.bind ?_ (fun _ => ?_))
   | exact ih0 _ _
   | exact LeO.none _
   | refine LeO.ite ?_ ?_
   | refine LeO.bind ?_ (fun _ => ?_)
set_option maxHeartbeats 8000000 in
set_option maxRecDepth 100000 in
theorem feed_list.calls (k : Nat) (a0 : Int) (r : List Int) (w : World) (hT : Tab.Tabs w) (h : feed_list.f k a0 = some r) :
  Calls Tryd.prog 63 #[.int .i64 a0] w fun e w' => ∃ v0_ : Value, e = .returned (v0_) ∧ Kd.R (Kd.int .i64) 3 w' w.heap.size (fun _ => True) v0_ r ∧ Below w.heap.size w w' := by
 have HT := Aside0.mk hT
 clear hT
 have HB := Aside0.mk (Below.refl w.heap.size w)
 have H : (feed_list.l0 k a0 ([] : List Int)) = some r := h
 clear h
 have H' := Aside0.mk H
 clear H
 go_enter Tryd.func63, Tryd.ntmps63
 go_wp2
 go_loopg [0, 3] k (fun kq v0 v3 w' => ∃ (x0_1 : Int) (x3_1 : List Int), v0 = .int .i64 x0_1 ∧ Aside0 (feed_list.l0 kq x0_1 x3_1 = some r) ∧ Aside0 (kq ≤ k) ∧ Aside0 (Kd.R (Kd.int .i64) 3 w' w.heap.size (fun _ => True) v3 x3_1) ∧ Aside0 (Below w.heap.size w w'))
 case atStart => exact ⟨(a0), (([] : List Int)), rsz, H', ⟨Nat.le_refl _⟩, ⟨by first | exact Kd.R_nil _ _ _ _ _ | exact Kd.N_nil _ _ _ _ _ | exact Kd.V_nil _ _ _ _ _ | exact Kd.Q_nil _ _ _ _ _ | exact Kd.S_nil _ _ _ _ _⟩, ⟨bel⟩⟩
 case round =>
  clear H'
  obtain ⟨x0_1, x3_1, rfl, HA, HK1, HO_3, HB⟩ := hrel
  cases gk with
  | zero => exact absurd HA.out (by simp [feed_list.l0])
  | succ k1 =>
   have H := HA.out
   clear HA
   simp only [feed_list.l0] at H
   by_cases c2 : x0_1 > 0
   ·
    rw [if_pos c2] at H
    have c2b0 : decide (0 < x0_1) = true := decide_eq_true c2
    clear c2
    replace H := Option.bind_eq_some_iff.mp H
    obtain ⟨t173, A30, H⟩ := H
    replace H : (if x3_1.length < 17592186044416 then (feed_list.l0 k1 (Go.bits .and .i64 x0_1 (wrap64 (x0_1 - 1))) (x3_1 ++ [t173])) else (none)) = some r := H
    have A3 := Aside0.mk A30
    clear A30
    by_cases c4 : x3_1.length < 17592186044416
    ·
     rw [if_pos c4] at H
     have LMc4 := Aside0.mk c4
     clear c4
     obtain ⟨y174, hy174⟩ : ∃ y_ : List Int, y_ = (x3_1 ++ [t173]) := ⟨_, rfl⟩
     replace H : (feed_list.l0 k1 (Go.bits .and .i64 x0_1 (wrap64 (x0_1 - 1))) y174) = some r := by first | (rw [hy174]; with_reducible exact H) | (have H2_ := (Option.bind_some _ _).symm.trans H; rw [hy174]; with_reducible exact H2_) | (have H2_ := (Option.bind_some _ _).symm.trans H; with_reducible exact H2_) | with_reducible exact H | (rw [hy174]; exact H) | exact H
     have Ny174 := Aside0.mk hy174
     clear hy174
     have H' := Aside0.mk H
     clear H
     go_wp2_with (first | ((with_reducible refine gate_callee (f := 90) rfl ?_); refine goesL_ (some 13) rfl rfl Tryd.func90 (by kernel_rfl) rfl #[.int .u64 (IntKind.u64.wrap (x0_1))] rfl mapz ?_; (with_reducible refine (bits_TrailingZeros.calls (IntKind.u64.wrap (x0_1)) t173 _ ?sideT A3.out).mono ?_); (case sideT => first | exact HT.out | exact Tab.Tabs.below HT.out bel | (with_reducible repeat (first | exact HT.out | apply Tab.Tabs.alloc | apply Tab.Tabs.drewN | apply Tab.Tabs.drew))); rintro e w' ⟨rfl, ⟨nd, rfl⟩⟩; refine ⟨_, rfl, ?_⟩) | ((with_reducible refine gate_builtin (b := .append) (xs := #[.tmp 10, .tmp 14]) rfl ?_); at_builtin; refine Kd.R_append (Kd.int .i64) (w0 := w) w.heap.size rfl (.tmp 10) (.tmp 14) 28 3 (.int .i64 0) 8 rfl Tryd.underlying28 info3 rfl (by decide) (by omega) u3 x3_1 t173 [.int .i64 t173] (fun _ => True) (fun _ => False) rfl rfl ?aP (fun _ hk => hk.elim) ?aF ?aO ?aB ?aS ?aL ?_; (case aP => exact rfl); (case aB => exact bel); (case aF => exact (fun _ _ => trivial)); (case aO => exact (ownx HO_3)); (case aS => exact (below_size bel)); (case aL => have := LMc4.out; omega); intro v175 w5 ho hb hg hat; rw [← Ny174.out] at ho; have n0_ := Aside0.mk (hb); have n1_ := Aside0.mk (ho); clear HB; clear HO_3; have HB := n0_; have HO176 := n1_; clear n0_ n1_; clear ho hb hg hat))
     go_roundg k1
     case measure => have := HK1.out; omega
     case rel => exact ⟨(Go.bits .and .i64 x0_1 (wrap64 (x0_1 - 1))), (y174), rsz, H', ⟨by have := HK1.out; omega⟩, ⟨by (with_reducible repeat (first | apply Kd.R_alloc | apply Kd.R_drewN | apply Kd.R_drew)); exact HO176.out⟩, ⟨bel⟩⟩
    ·
     rw [if_neg c4] at H
     exact absurd H (by simp)
   ·
    rw [if_neg c2] at H
    have c2b0 : decide (0 < x0_1) = false := decide_eq_false c2
    clear c2
    obtain rfl := Option.some.inj H
    go_wp2
    go_ret
    exact ⟨_, ezz, by (with_reducible repeat (first | apply Kd.R_alloc | apply Kd.R_drewN | apply Kd.R_drew)); exact HO_3.out, bel⟩

/-! ### feed_grid_dead: function 60 -/
def feed_grid_dead.f (k : Nat) (a0_0 : Int) (l0_1 : List (S69)) (l0_2 : List (S71)) (a1 : Int) (a2 : Int) : Option (Bool) := (feed_grid_fed.f k a0_0 l0_1 l0_2 a1).bind fun t178 => (if 0 ≤ a2 then (if a2 < (t178.length : Int) then (some ((rd t178 a2) == 0)) else (none)) else (none))
theorem feed_grid_dead.mono : ∀ a0 a1 a2 a3 a4 k, LeO (feed_grid_dead.f k a0 a1 a2 a3 a4) (feed_grid_dead.f (k + 1) a0 a1 a2 a3 a4) := by
 intro a0 a1 a2 a3 a4 k
 unfold feed_grid_dead.f
 repeat' first
   | (with_reducible exact feed_grid_fed.mono _ _ _ _ _)
   | (with_reducible exact LeO.refl _)
   | (with_reducible exact LeO.none _)
   | (with_reducible refine LeO.ite ?_ ?_)
   | (with_reducible refine LeO.bind ?_ (fun _ => ?_))
   | exact feed_grid_fed.mono _ _ _ _ _
   | exact LeO.none _
   | refine LeO.ite ?_ ?_
   | refine LeO.bind ?_ (fun _ => ?_)
set_option maxHeartbeats 8000000 in
set_option maxRecDepth 100000 in
theorem feed_grid_dead.calls (k : Nat) (a0_0 : Int) (A0_1 : Option Addr) (c0_1 : Nat) (l0_1 : List (S69)) (A0_2 : Option Addr) (c0_2 : Nat) (l0_2 : List (S71)) (a1 : Int) (a2 : Int) (r : Bool) (w : World) (hr0_1 : Kd.C k69 w A0_1 l0_1.length l0_1) (hc0_1 : l0_1.length ≤ c0_1) (hr0_2 : Kd.C k71 w A0_2 l0_2.length l0_2) (hc0_2 : l0_2.length ≤ c0_2) (h : feed_grid_dead.f k a0_0 l0_1 l0_2 a1 a2 = some r) :
  Calls Tryd.prog 60 #[.agg #[.int .i64 a0_0, .slice A0_1 l0_1.length c0_1, .slice A0_2 l0_2.length c0_2], .int .i64 a1, .int .i64 a2] w fun e w' => e = .returned (.bool r) ∧ Below w.heap.size w w' := by
 have hu73 := Tryd.underlying73
 have HR0_1 := Aside0.mk hr0_1
 have HC0_1 := Aside0.mk hc0_1
 clear hr0_1 hc0_1
 have HR0_2 := Aside0.mk hr0_2
 have HC0_2 := Aside0.mk hc0_2
 clear hr0_2 hc0_2
 have HB := Aside0.mk (Below.refl w.heap.size w)
 have H : ((feed_grid_fed.f k a0_0 l0_1 l0_2 a1).bind fun t178 => (if 0 ≤ a2 then (if a2 < (t178.length : Int) then (some ((rd t178 a2) == 0)) else (none)) else (none))) = some r := h
 clear h
 replace H := Option.bind_eq_some_iff.mp H
 obtain ⟨t178, A40, H⟩ := H
 replace H : (if 0 ≤ a2 then (if a2 < (t178.length : Int) then (some ((rd t178 a2) == 0)) else (none)) else (none)) = some r := H
 have A4 := Aside0.mk A40
 clear A40
 by_cases c5 : 0 ≤ a2
 ·
  rw [if_pos c5] at H
  have c5b0 : decide (0 ≤ a2) = true := decide_eq_true c5
  clear c5
  by_cases c6 : a2 < (t178.length : Int)
  ·
   rw [if_pos c6] at H
   have c6b0 : decide (a2 < (t178.length : Int)) = true := decide_eq_true c6
   clear c6
   obtain rfl := Option.some.inj H
   go_enter Tryd.func60, Tryd.ntmps60
   go_wp2_with (first | ((with_reducible refine gate_dst (N := 3) rfl ?_); refine box_event ?hg (N := 3) ?hd (cs := #[.int .i64 a0_0, .slice A0_1 l0_1.length c0_1, .slice A0_2 l0_2.length c0_2]) (t := 73) ?hr ?_; (case hd => rfl); (case hg => rfl); (case hr => first | (go_simp; done) | (go_simp; rfl)); intro gb177 hg w7 hbox hb; have BK177 := Aside0.mk (hbox); have GW177 := bsz (w := w) hg; have GE177 := GW177; replace HB := Aside0.mk (below_step bel hb); clear hb hbox hg; have hcz8_0 := blkc BK177.out 0 (.int .i64 a0_0) rfl; have hcz8_1 := blkc BK177.out 1 (.slice A0_1 l0_1.length c0_1) rfl; have hcz8_2 := blkc BK177.out 2 (.slice A0_2 l0_2.length c0_2) rfl) | ((with_reducible refine gate_callee (f := 89) rfl ?_); refine goesL_ (some 9) rfl rfl Tryd.func89 (by kernel_rfl) rfl #[.agg #[.int .i64 a0_0, .slice A0_1 l0_1.length c0_1, .slice A0_2 l0_2.length c0_2], .int .i64 a1] rfl mapz ?_; (with_reducible refine (feed_grid_fed.calls k a0_0 _ _ l0_1 _ _ l0_2 a1 t178 _ ?side1 ?side2 ?side3 ?side4 A4.out).mono ?_); (case side1 => exact cbz HR0_1); (case side2 => exact HC0_1.out); (case side3 => exact cbz HR0_2); (case side4 => exact HC0_2.out); rintro e w9 ⟨v179, rfl, ho0, hb⟩; refine ⟨_, rfl, ?_⟩; have HO180 := Aside0.mk (Kd.R_lower ho0 (below_size bel)); replace BK177 := Aside0.mk (blk_below (g := gb177) blkz hb); replace HB := Aside0.mk (below_step bel hb); (try clear hb); (try clear hb2); (try clear hk); (try clear hi); (try clear ho0); obtain ⟨Ao10, co10, eo10⟩ := Kd.R_slice HO180.out; subst eo10; have p181 : 0 ≤ (a2 : Int) := of_decide_eq_true asz; have q181 : a2 < (t178.length : Int) := of_decide_eq_true asz; obtain ⟨ad181, e181, hx181_0⟩ := Kd.at_int (Kd.R_reads' HO180.out).2.2 a2 p181 q181; cases e181; replace p181 := eq_true p181; replace q181 := eq_true q181))
   go_ret
   exact ⟨ezz, bel⟩
  ·
   rw [if_neg c6] at H
   exact absurd H (by simp)
 ·
  rw [if_neg c5] at H
  exact absurd H (by simp)

/-! ### feed_grid_least: function 64 -/
def feed_grid_least.l0 : Nat → Int → Int → Int → Int → Int → Int → List (S69) → List (S71) → Option (Int)
 | 0, _, _, _, _, _, _, _, _ => none
 | k + 1, x1, x2, x7, x11, x12, x183000, x183001, x183002 => if x12 < x11 then (if (Go.bits .andNot .i64 x12 x1) = 0 then ((bits_OnesCount.f (IntKind.u64.wrap (x12))).bind fun t184 => ((bits_OnesCount.f (IntKind.u64.wrap (x7))).bind fun t185 => (if t184 < t185 then ((feed_grid_dead.f k x183000 x183001 x183002 (Go.bits .andNot .i64 x1 x12) x2).bind fun t186 => (if t186 = true then (feed_grid_least.l0 k x1 x2 x12 x11 (wrap64 (x12 + 1)) x183000 x183001 x183002) else (feed_grid_least.l0 k x1 x2 x7 x11 (wrap64 (x12 + 1)) x183000 x183001 x183002))) else (feed_grid_least.l0 k x1 x2 x7 x11 (wrap64 (x12 + 1)) x183000 x183001 x183002)))) else (feed_grid_least.l0 k x1 x2 x7 x11 (wrap64 (x12 + 1)) x183000 x183001 x183002)) else (some x7)
def feed_grid_least.f (k : Nat) (a0_0 : Int) (l0_1 : List (S69)) (l0_2 : List (S71)) (a1 : Int) (a2 : Int) : Option (Int) := (feed_grid_all.f a0_0 l0_1 l0_2).bind fun t183 => (feed_grid_least.l0 k a1 a2 a1 t183 0 a0_0 l0_1 l0_2)
theorem feed_grid_least.mono_l : ∀ k, (∀ y0 y1 y2 y3 y4 y5 y6 y7, LeO (feed_grid_least.l0 k y0 y1 y2 y3 y4 y5 y6 y7) (feed_grid_least.l0 (k + 1) y0 y1 y2 y3 y4 y5 y6 y7))
 | 0 => fun _ _ _ _ _ _ _ _ r h => by simp [feed_grid_least.l0] at h
 | k + 1 => by
  have ih0 := feed_grid_least.mono_l k
  ·
   intro y0 y1 y2 y3 y4 y5 y6 y7
   unfold feed_grid_least.l0
   repeat' first
   | (with_reducible exact ih0 _ _ _ _ _ _ _ _)
   | (with_reducible exact feed_grid_dead.mono _ _ _ _ _ _)
   | (with_reducible exact LeO.refl _)
   | (with_reducible exact LeO.none _)
   | (with_reducible refine LeO.ite ?_ ?_)
   | (with_reducible refine LeO.bind ?_ (fun _ => ?_))
   | exact ih0 _ _ _ _ _ _ _ _
   | exact feed_grid_dead.mono _ _ _ _ _ _
   | exact LeO.none _
   | refine LeO.ite ?_ ?_
   | refine LeO.bind ?_ (fun _ => ?_)
theorem feed_grid_least.mono : ∀ a0 a1 a2 a3 a4 k, LeO (feed_grid_least.f k a0 a1 a2 a3 a4) (feed_grid_least.f (k + 1) a0 a1 a2 a3 a4) := by
 intro a0 a1 a2 a3 a4 k
 have ih0 := feed_grid_least.mono_l k
 unfold feed_grid_least.f
 repeat' first
   | (with_reducible exact ih0 _ _ _ _ _ _ _ _)
   | (with_reducible exact feed_grid_dead.mono _ _ _ _ _ _)
   | (with_reducible exact LeO.refl _)
   | (with_reducible exact LeO.none _)
   | (with_reducible refine LeO.ite ?_ ?_)
   | (with_reducible refine LeO.bind ?_ (fun _ => ?_))
   | exact ih0 _ _ _ _ _ _ _ _
   | exact feed_grid_dead.mono _ _ _ _ _ _
   | exact LeO.none _
   | refine LeO.ite ?_ ?_
   | refine LeO.bind ?_ (fun _ => ?_)
set_option maxHeartbeats 8000000 in
set_option maxRecDepth 100000 in
theorem feed_grid_least.calls (k : Nat) (a0_0 : Int) (A0_1 : Option Addr) (c0_1 : Nat) (l0_1 : List (S69)) (A0_2 : Option Addr) (c0_2 : Nat) (l0_2 : List (S71)) (a1 : Int) (a2 : Int) (r : Int) (w : World) (hr0_1 : Kd.C k69 w A0_1 l0_1.length l0_1) (hc0_1 : l0_1.length ≤ c0_1) (hr0_2 : Kd.C k71 w A0_2 l0_2.length l0_2) (hc0_2 : l0_2.length ≤ c0_2) (h : feed_grid_least.f k a0_0 l0_1 l0_2 a1 a2 = some r) :
  Calls Tryd.prog 64 #[.agg #[.int .i64 a0_0, .slice A0_1 l0_1.length c0_1, .slice A0_2 l0_2.length c0_2], .int .i64 a1, .int .i64 a2] w fun e w' => e = .returned (.int .i64 r) ∧ Below w.heap.size w w' := by
 have hu73 := Tryd.underlying73
 have HR0_1 := Aside0.mk hr0_1
 have HC0_1 := Aside0.mk hc0_1
 clear hr0_1 hc0_1
 have HR0_2 := Aside0.mk hr0_2
 have HC0_2 := Aside0.mk hc0_2
 clear hr0_2 hc0_2
 have HB := Aside0.mk (Below.refl w.heap.size w)
 have H : ((feed_grid_all.f a0_0 l0_1 l0_2).bind fun t183 => (feed_grid_least.l0 k a1 a2 a1 t183 0 a0_0 l0_1 l0_2)) = some r := h
 clear h
 replace H := Option.bind_eq_some_iff.mp H
 obtain ⟨t183, A40, H⟩ := H
 replace H : (feed_grid_least.l0 k a1 a2 a1 t183 0 a0_0 l0_1 l0_2) = some r := H
 have A4 := Aside0.mk A40
 clear A40
 have H' := Aside0.mk H
 clear H
 go_enter Tryd.func64, Tryd.ntmps64
 go_wp2_with (first | ((with_reducible refine gate_dst (N := 3) rfl ?_); refine box_event ?hg (N := 3) ?hd (cs := #[.int .i64 a0_0, .slice A0_1 l0_1.length c0_1, .slice A0_2 l0_2.length c0_2]) (t := 73) ?hr ?_; (case hd => rfl); (case hg => rfl); (case hr => first | (go_simp; done) | (go_simp; rfl)); intro gb182 hg w5 hbox hb; have BK182 := Aside0.mk (hbox); have GW182 := bsz (w := w) hg; have GE182 := GW182; replace HB := Aside0.mk (below_step bel hb); clear hb hbox hg; have hcz6_0 := blkc BK182.out 0 (.int .i64 a0_0) rfl; have hcz6_1 := blkc BK182.out 1 (.slice A0_1 l0_1.length c0_1) rfl; have hcz6_2 := blkc BK182.out 2 (.slice A0_2 l0_2.length c0_2) rfl) | ((with_reducible refine gate_callee (f := 52) rfl ?_); refine goesL_ (some 11) rfl rfl Tryd.func52 (by kernel_rfl) rfl #[.agg #[.int .i64 a0_0, .slice A0_1 l0_1.length c0_1, .slice A0_2 l0_2.length c0_2]] rfl mapz ?_; (with_reducible refine (feed_grid_all.calls a0_0 _ _ l0_1 _ _ l0_2 t183 _ ?side1 ?side2 ?side3 ?side4 A4.out).mono ?_); (case side1 => exact cbz HR0_1); (case side2 => exact HC0_1.out); (case side3 => exact cbz HR0_2); (case side4 => exact HC0_2.out); rintro e w7 ⟨rfl, hb⟩; refine ⟨_, rfl, ?_⟩; replace BK182 := Aside0.mk (blk_below (g := gb182) blkz hb); replace HB := Aside0.mk (below_step bel hb); (try clear hb); (try clear hb2); (try clear hk); (try clear hi)))
 go_loopg [7, 12] k (fun kq v7 v12 w' => ∃ (x7_1 : Int) (x12_1 : Int), v7 = .int .i64 x7_1 ∧ v12 = .int .i64 x12_1 ∧ Aside0 (feed_grid_least.l0 kq a1 a2 x7_1 t183 x12_1 a0_0 l0_1 l0_2 = some r) ∧ Aside0 (kq ≤ k) ∧ Aside0 (w'.heap[gb182]? = some (.cells #[.int .i64 a0_0, (.slice A0_1 l0_1.length c0_1), (.slice A0_2 l0_2.length c0_2)] 73 (0, 0))) ∧ Aside0 (Below w.heap.size w w'))
 case atStart => exact ⟨(a1), (0), rsz, rsz, H', ⟨Nat.le_refl _⟩, ⟨blkz⟩, ⟨bel⟩⟩
 case round =>
  clear H'
  try clear p2
  try clear c5
  try clear c6
  try clear hcz6_0
  try clear hcz6_1
  try clear hcz6_2
  try clear hfz6_0
  try clear hfz6_1
  try clear hfz6_2
  obtain ⟨x7_1, x12_1, rfl, rfl, HA, HK1, BK182, HB⟩ := hrel
  cases gk with
  | zero => exact absurd HA.out (by simp [feed_grid_least.l0])
  | succ k1 =>
   have H := HA.out
   clear HA
   simp only [feed_grid_least.l0] at H
   by_cases c8 : x12_1 < t183
   ·
    rw [if_pos c8] at H
    have c8b0 : decide (x12_1 < t183) = true := decide_eq_true c8
    clear c8
    by_cases c9 : (Go.bits .andNot .i64 x12_1 a1) = 0
    ·
     rw [if_pos c9] at H
     have c9b0 : ((Go.bits .andNot .i64 x12_1 a1) == 0) = true := beq_iff_eq.mpr c9
     have c9b1 : ((Go.bits .andNot .i64 x12_1 a1) != 0) = false := bne_eq_false_iff_eq.mpr c9
     clear c9
     replace H := Option.bind_eq_some_iff.mp H
     obtain ⟨t184, A100, H⟩ := H
     replace H : ((bits_OnesCount.f (IntKind.u64.wrap (x7_1))).bind fun t185 => (if t184 < t185 then ((feed_grid_dead.f k1 a0_0 l0_1 l0_2 (Go.bits .andNot .i64 a1 x12_1) a2).bind fun t186 => (if t186 = true then (feed_grid_least.l0 k1 a1 a2 x12_1 t183 (wrap64 (x12_1 + 1)) a0_0 l0_1 l0_2) else (feed_grid_least.l0 k1 a1 a2 x7_1 t183 (wrap64 (x12_1 + 1)) a0_0 l0_1 l0_2))) else (feed_grid_least.l0 k1 a1 a2 x7_1 t183 (wrap64 (x12_1 + 1)) a0_0 l0_1 l0_2))) = some r := H
     have A10 := Aside0.mk A100
     clear A100
     replace H := Option.bind_eq_some_iff.mp H
     obtain ⟨t185, A110, H⟩ := H
     replace H : (if t184 < t185 then ((feed_grid_dead.f k1 a0_0 l0_1 l0_2 (Go.bits .andNot .i64 a1 x12_1) a2).bind fun t186 => (if t186 = true then (feed_grid_least.l0 k1 a1 a2 x12_1 t183 (wrap64 (x12_1 + 1)) a0_0 l0_1 l0_2) else (feed_grid_least.l0 k1 a1 a2 x7_1 t183 (wrap64 (x12_1 + 1)) a0_0 l0_1 l0_2))) else (feed_grid_least.l0 k1 a1 a2 x7_1 t183 (wrap64 (x12_1 + 1)) a0_0 l0_1 l0_2)) = some r := H
     have A11 := Aside0.mk A110
     clear A110
     by_cases c12 : t184 < t185
     ·
      rw [if_pos c12] at H
      have c12b0 : decide (t184 < t185) = true := decide_eq_true c12
      clear c12
      replace H := Option.bind_eq_some_iff.mp H
      obtain ⟨t186, A130, H⟩ := H
      replace H : (if t186 = true then (feed_grid_least.l0 k1 a1 a2 x12_1 t183 (wrap64 (x12_1 + 1)) a0_0 l0_1 l0_2) else (feed_grid_least.l0 k1 a1 a2 x7_1 t183 (wrap64 (x12_1 + 1)) a0_0 l0_1 l0_2)) = some r := H
      have A13 := Aside0.mk A130
      clear A130
      by_cases c14 : t186 = true
      ·
       subst c14
       have H1 : (feed_grid_least.l0 k1 a1 a2 x12_1 t183 (wrap64 (x12_1 + 1)) a0_0 l0_1 l0_2) = some r := by rw [if_pos rfl] at H; exact H
       clear H
       have H := H1
       clear H1
       have H' := Aside0.mk H
       clear H
       go_wp2_with (first | (go_at_call 80; (with_reducible refine (bits_OnesCount.calls (IntKind.u64.wrap (x12_1)) t184 _ A10.out).mono ?_); rintro e w' ⟨rfl, ⟨nd, rfl⟩⟩) | (go_at_call 80; (with_reducible refine (bits_OnesCount.calls (IntKind.u64.wrap (x7_1)) t185 _ A11.out).mono ?_); rintro e w' ⟨rfl, ⟨nd, rfl⟩⟩; have hcz15_0 := blkc BK182.out 0 (.int .i64 a0_0) rfl; have hcz15_1 := blkc BK182.out 1 (.slice A0_1 l0_1.length c0_1) rfl; have hcz15_2 := blkc BK182.out 2 (.slice A0_2 l0_2.length c0_2) rfl) | (go_at_call 60; (with_reducible refine (feed_grid_dead.calls k1 a0_0 _ _ l0_1 _ _ l0_2 (Go.bits .andNot .i64 a1 x12_1) a2 true _ ?side1 ?side2 ?side3 ?side4 A13.out).mono ?_); (case side1 => repeat (first | exact (Kd.C_below HR0_1.out bel) | (with_reducible refine Kd.C_alloc ?_ _) | (with_reducible refine Kd.C_drewN ?_ _) | (with_reducible refine Kd.C_drew ?_))); (case side2 => exact HC0_1.out); (case side3 => repeat (first | exact (Kd.C_below HR0_2.out bel) | (with_reducible refine Kd.C_alloc ?_ _) | (with_reducible refine Kd.C_drewN ?_ _) | (with_reducible refine Kd.C_drew ?_))); (case side4 => exact HC0_2.out); rintro e w16 ⟨rfl, hb⟩; replace BK182 := Aside0.mk (blk_below (g := gb182) blkz hb); replace HB := Aside0.mk (below_step bel hb); (try clear hb); (try clear hb2); (try clear hk); (try clear hi)))
       go_roundg k1
       case measure => have := HK1.out; omega
       case rel => exact ⟨(x12_1), (wrap64 (x12_1 + 1)), rsz, rsz, H', ⟨by have := HK1.out; omega⟩, ⟨blkz⟩, ⟨bel⟩⟩
      ·
       replace c14 := Bool.eq_false_iff.mpr c14
       subst c14
       have H1 : (feed_grid_least.l0 k1 a1 a2 x7_1 t183 (wrap64 (x12_1 + 1)) a0_0 l0_1 l0_2) = some r := by rw [if_neg (show ¬ (false = true) by decide)] at H; exact H
       clear H
       have H := H1
       clear H1
       have H' := Aside0.mk H
       clear H
       go_wp2_with (first | (go_at_call 80; (with_reducible refine (bits_OnesCount.calls (IntKind.u64.wrap (x12_1)) t184 _ A10.out).mono ?_); rintro e w' ⟨rfl, ⟨nd, rfl⟩⟩) | (go_at_call 80; (with_reducible refine (bits_OnesCount.calls (IntKind.u64.wrap (x7_1)) t185 _ A11.out).mono ?_); rintro e w' ⟨rfl, ⟨nd, rfl⟩⟩; have hcz17_0 := blkc BK182.out 0 (.int .i64 a0_0) rfl; have hcz17_1 := blkc BK182.out 1 (.slice A0_1 l0_1.length c0_1) rfl; have hcz17_2 := blkc BK182.out 2 (.slice A0_2 l0_2.length c0_2) rfl) | (go_at_call 60; (with_reducible refine (feed_grid_dead.calls k1 a0_0 _ _ l0_1 _ _ l0_2 (Go.bits .andNot .i64 a1 x12_1) a2 false _ ?side1 ?side2 ?side3 ?side4 A13.out).mono ?_); (case side1 => repeat (first | exact (Kd.C_below HR0_1.out bel) | (with_reducible refine Kd.C_alloc ?_ _) | (with_reducible refine Kd.C_drewN ?_ _) | (with_reducible refine Kd.C_drew ?_))); (case side2 => exact HC0_1.out); (case side3 => repeat (first | exact (Kd.C_below HR0_2.out bel) | (with_reducible refine Kd.C_alloc ?_ _) | (with_reducible refine Kd.C_drewN ?_ _) | (with_reducible refine Kd.C_drew ?_))); (case side4 => exact HC0_2.out); rintro e w18 ⟨rfl, hb⟩; replace BK182 := Aside0.mk (blk_below (g := gb182) blkz hb); replace HB := Aside0.mk (below_step bel hb); (try clear hb); (try clear hb2); (try clear hk); (try clear hi)))
       go_roundg k1
       case measure => have := HK1.out; omega
       case rel => exact ⟨(x7_1), (wrap64 (x12_1 + 1)), rsz, rsz, H', ⟨by have := HK1.out; omega⟩, ⟨blkz⟩, ⟨bel⟩⟩
     ·
      rw [if_neg c12] at H
      have c12b0 : decide (t184 < t185) = false := decide_eq_false c12
      clear c12
      have H' := Aside0.mk H
      clear H
      go_wp2_with (first | (go_at_call 80; (with_reducible refine (bits_OnesCount.calls (IntKind.u64.wrap (x12_1)) t184 _ A10.out).mono ?_); rintro e w' ⟨rfl, ⟨nd, rfl⟩⟩) | (go_at_call 80; (with_reducible refine (bits_OnesCount.calls (IntKind.u64.wrap (x7_1)) t185 _ A11.out).mono ?_); rintro e w' ⟨rfl, ⟨nd, rfl⟩⟩))
      go_roundg k1
      case measure => have := HK1.out; omega
      case rel => exact ⟨(x7_1), (wrap64 (x12_1 + 1)), rsz, rsz, H', ⟨by have := HK1.out; omega⟩, ⟨blkz⟩, ⟨bel⟩⟩
    ·
     rw [if_neg c9] at H
     have c9b0 : ((Go.bits .andNot .i64 x12_1 a1) == 0) = false := beq_eq_false_iff_ne.mpr c9
     have c9b1 : ((Go.bits .andNot .i64 x12_1 a1) != 0) = true := bne_iff_ne.mpr c9
     have H' := Aside0.mk H
     clear H
     go_wp2
     go_roundg k1
     case measure => have := HK1.out; omega
     case rel => exact ⟨(x7_1), (wrap64 (x12_1 + 1)), rsz, rsz, H', ⟨by have := HK1.out; omega⟩, ⟨blkz⟩, ⟨bel⟩⟩
   ·
    rw [if_neg c8] at H
    have c8b0 : decide (x12_1 < t183) = false := decide_eq_false c8
    clear c8
    obtain rfl := Option.some.inj H
    go_wp2
    go_ret
    exact ⟨ezz, bel⟩

/-! ### feed_Isolate: function 24 -/
def feed_Isolate.f (k : Nat) (a0_0 : Int) (l0_1 : List (S69)) (l0_2 : List (S71)) (a1 : Int) (a2 : Int) : Option (List Int × Int) := (feed_asked.f a0_0 l0_1 l0_2 a1 a2).bind fun bt188 => (if bt188.2 = 0 then ((feed_grid_atHome.f bt188.1 l0_1 l0_2 a2).bind fun t197 => (if t197 = true then (some (([] : List Int), 5)) else ((feed_grid_least.f k bt188.1 l0_1 l0_2 a1 a2).bind fun t198 => ((feed_list.f k t198).bind fun t199 => (some (t199, 0)))))) else (some (([] : List Int), bt188.2)))
theorem feed_Isolate.mono : ∀ a0 a1 a2 a3 a4 k, LeO (feed_Isolate.f k a0 a1 a2 a3 a4) (feed_Isolate.f (k + 1) a0 a1 a2 a3 a4) := by
 intro a0 a1 a2 a3 a4 k
 unfold feed_Isolate.f
 repeat' first
   | (with_reducible exact feed_grid_least.mono _ _ _ _ _ _)
   | (with_reducible exact feed_list.mono _ _)
   | (with_reducible exact LeO.refl _)
   | (with_reducible exact LeO.none _)
   | (with_reducible refine LeO.ite ?_ ?_)
   | (with_reducible refine LeO.bind ?_ (fun _ => ?_))
   | exact feed_grid_least.mono _ _ _ _ _ _
   | exact feed_list.mono _ _
   | exact LeO.none _
   | refine LeO.ite ?_ ?_
   | refine LeO.bind ?_ (fun _ => ?_)
set_option maxHeartbeats 8000000 in
set_option maxRecDepth 100000 in
theorem feed_Isolate.calls (k : Nat) (a0_0 : Int) (A0_1 : Option Addr) (c0_1 : Nat) (l0_1 : List (S69)) (A0_2 : Option Addr) (c0_2 : Nat) (l0_2 : List (S71)) (a1 : Int) (a2 : Int) (r1 : List Int) (r2 : Int) (w : World) (hr0_1 : Kd.C k69 w A0_1 l0_1.length l0_1) (hc0_1 : l0_1.length ≤ c0_1) (hr0_2 : Kd.C k71 w A0_2 l0_2.length l0_2) (hc0_2 : l0_2.length ≤ c0_2) (hT : Tab.Tabs w) (h : feed_Isolate.f k a0_0 l0_1 l0_2 a1 a2 = some (r1, r2)) :
  Calls Tryd.prog 24 #[.agg #[.int .i64 a0_0, .slice A0_1 l0_1.length c0_1, .slice A0_2 l0_2.length c0_2], .int .i64 a1, .int .i64 a2] w fun e w' => ∃ v0_ : Value, e = .returned (.tuple #[v0_, .int .i64 r2]) ∧ Kd.R (Kd.int .i64) 3 w' w.heap.size (fun _ => True) v0_ r1 ∧ Below w.heap.size w w' := by
 have HT := Aside0.mk hT
 clear hT
 have hu25 := Tryd.underlying25
 have hu73 := Tryd.underlying73
 have HR0_1 := Aside0.mk hr0_1
 have HC0_1 := Aside0.mk hc0_1
 clear hr0_1 hc0_1
 have HR0_2 := Aside0.mk hr0_2
 have HC0_2 := Aside0.mk hc0_2
 clear hr0_2 hc0_2
 have HB := Aside0.mk (Below.refl w.heap.size w)
 have H : ((feed_asked.f a0_0 l0_1 l0_2 a1 a2).bind fun bt188 => (if bt188.2 = 0 then ((feed_grid_atHome.f bt188.1 l0_1 l0_2 a2).bind fun t197 => (if t197 = true then (some (([] : List Int), 5)) else ((feed_grid_least.f k bt188.1 l0_1 l0_2 a1 a2).bind fun t198 => ((feed_list.f k t198).bind fun t199 => (some (t199, 0)))))) else (some (([] : List Int), bt188.2)))) = some (r1, r2) := h
 clear h
 replace H := Option.bind_eq_some_iff.mp H
 obtain ⟨⟨t188, t195⟩, A40, H⟩ := H
 replace H : (if t195 = 0 then ((feed_grid_atHome.f t188 l0_1 l0_2 a2).bind fun t197 => (if t197 = true then (some (([] : List Int), 5)) else ((feed_grid_least.f k t188 l0_1 l0_2 a1 a2).bind fun t198 => ((feed_list.f k t198).bind fun t199 => (some (t199, 0)))))) else (some (([] : List Int), t195))) = some (r1, r2) := H
 have A4 := Aside0.mk A40
 clear A40
 by_cases c5 : t195 = 0
 ·
  rw [if_pos c5] at H
  have c5b0 : (t195 == 0) = true := beq_iff_eq.mpr c5
  have c5b1 : (t195 != 0) = false := bne_eq_false_iff_eq.mpr c5
  clear c5
  replace H := Option.bind_eq_some_iff.mp H
  obtain ⟨t197, A60, H⟩ := H
  replace H : (if t197 = true then (some (([] : List Int), 5)) else ((feed_grid_least.f k t188 l0_1 l0_2 a1 a2).bind fun t198 => ((feed_list.f k t198).bind fun t199 => (some (t199, 0))))) = some (r1, r2) := H
  have A6 := Aside0.mk A60
  clear A60
  by_cases c7 : t197 = true
  ·
   subst c7
   have H1 : (some (([] : List Int), 5)) = some (r1, r2) := by rw [if_pos rfl] at H; exact H
   clear H
   have H := H1
   clear H1
   simp only [Option.some.injEq, Prod.mk.injEq] at H
   obtain ⟨rfl, rfl⟩ := H
   go_enter Tryd.func24, Tryd.ntmps24
   go_wp2_with (first | ((with_reducible refine gate_dst (N := 3) rfl ?_); refine box_event ?hg (N := 3) ?hd (cs := #[.int .i64 a0_0, .slice A0_1 l0_1.length c0_1, .slice A0_2 l0_2.length c0_2]) (t := 25) ?hr ?_; (case hd => rfl); (case hg => rfl); (case hr => first | (go_simp; done) | (go_simp; rfl)); intro gb187 hg w8 hbox hb; have BK187 := Aside0.mk (hbox); have GW187 := bsz (w := w) hg; have GE187 := GW187; replace HB := Aside0.mk (below_step bel hb); clear hb hbox hg; have hcz9_0 := blkc BK187.out 0 (.int .i64 a0_0) rfl; have hcz9_1 := blkc BK187.out 1 (.slice A0_1 l0_1.length c0_1) rfl; have hcz9_2 := blkc BK187.out 2 (.slice A0_2 l0_2.length c0_2) rfl) | ((with_reducible refine gate_callee (f := 59) rfl ?_); refine goesL_ (some 14) rfl rfl Tryd.func59 (by kernel_rfl) rfl #[.agg #[.int .i64 a0_0, .slice A0_1 l0_1.length c0_1, .slice A0_2 l0_2.length c0_2], .int .i64 a1, .int .i64 a2] rfl mapz ?_; (with_reducible refine (feed_asked.calls a0_0 _ _ l0_1 _ _ l0_2 a1 a2 t188 t195 _ ?side1 ?side2 ?side3 ?side4 A4.out).mono ?_); (case side1 => exact cbz HR0_1); (case side2 => exact HC0_1.out); (case side3 => exact cbz HR0_2); (case side4 => exact HC0_2.out); rintro e w10 ⟨rfl, hb⟩; refine ⟨_, rfl, ?_⟩; replace BK187 := Aside0.mk (blk_below (g := gb187) blkz hb); replace HB := Aside0.mk (below_step bel hb); (try clear hb); (try clear hb2); (try clear hk); (try clear hi)) | ((with_reducible refine gate_dst (N := 8) rfl ?_); refine box_event ?hg (N := 8) ?hd (cs := #[.int .i64 0, .slice none 0 0, .slice none 0 0]) (t := 73) ?hr ?_; (case hd => rfl); (case hg => rfl); (case hr => first | (go_simp; done) | (go_simp; rfl)); intro gb196 hg w11 hbox hb; have BK196 := Aside0.mk (hbox); have GW196 := bsz (w := w) hg; have GE196 := GW196; have NB187_196 := neL (g := gb187) hg; have NB196_187 := neR (g := gb187) hg; replace BK187 := Aside0.mk (blk_below (g := gb187) blkz hb); replace HB := Aside0.mk (below_step bel hb); clear hb hbox hg; have hnb12 := NB196_187.out; have hnc12 := NB187_196.out; have hcz13_0 := blkc BK196.out 0 (.int .i64 0) rfl; have hcz13_1 := blkc BK196.out 1 (.slice none 0 0) rfl; have hcz13_2 := blkc BK196.out 2 (.slice none 0 0) rfl; have hfz13_0 := blk_frozen BK196.out 0; have hfz13_1 := blk_frozen BK196.out 1; have hfz13_2 := blk_frozen BK196.out 2) | ((with_reducible refine gate_callee (f := 62) rfl ?_); refine goesL_ (some 24) rfl rfl Tryd.func62 (by kernel_rfl) rfl #[.agg #[.int .i64 t188, .slice A0_1 l0_1.length c0_1, .slice A0_2 l0_2.length c0_2], .int .i64 a2] rfl mapz ?_; (with_reducible refine (feed_grid_atHome.calls t188 _ _ l0_1 _ _ l0_2 a2 true _ ?side1 ?side2 ?side3 ?side4 A6.out).mono ?_); (case side1 => exact cbz HR0_1); (case side2 => exact HC0_1.out); (case side3 => exact cbz HR0_2); (case side4 => exact HC0_2.out); rintro e w14 ⟨rfl, hb⟩; refine ⟨_, rfl, ?_⟩; replace BK187 := Aside0.mk (blk_below (g := gb187) (o := .cells #[.int .i64 a0_0, .slice A0_1 l0_1.length c0_1, .slice A0_2 l0_2.length c0_2] 25 (0, 0)) (by (with_reducible repeat (first | refine blk_drewN ?_ _ | refine blk_drew ?_ | refine blk_alloc ?_ _)); refine blk_far ?_ NB187_196.out _; (with_reducible repeat (first | refine blk_drewN ?_ _ | refine blk_drew ?_ | refine blk_alloc ?_ _)); refine blk_far ?_ NB187_196.out _; (with_reducible repeat (first | refine blk_drewN ?_ _ | refine blk_drew ?_ | refine blk_alloc ?_ _)); refine blk_far ?_ NB187_196.out _; (with_reducible repeat (first | refine blk_drewN ?_ _ | refine blk_drew ?_ | refine blk_alloc ?_ _)); exact BK187.out) hb); replace BK196 := Aside0.mk (blk_below (g := gb196) (o := .cells #[.int .i64 t188, .slice A0_1 l0_1.length c0_1, .slice A0_2 l0_2.length c0_2] 73 (0, 0)) (by (with_reducible repeat (first | refine blk_drewN ?_ _ | refine blk_drew ?_ | refine blk_alloc ?_ _)); refine blk_put (cs := #[.int .i64 t188, .slice A0_1 l0_1.length c0_1, .slice none 0 0]) ?_ 2 _ rfl; (with_reducible repeat (first | refine blk_drewN ?_ _ | refine blk_drew ?_ | refine blk_alloc ?_ _)); refine blk_put (cs := #[.int .i64 t188, .slice none 0 0, .slice none 0 0]) ?_ 1 _ rfl; (with_reducible repeat (first | refine blk_drewN ?_ _ | refine blk_drew ?_ | refine blk_alloc ?_ _)); refine blk_put (cs := #[.int .i64 0, .slice none 0 0, .slice none 0 0]) ?_ 0 _ rfl; (with_reducible repeat (first | refine blk_drewN ?_ _ | refine blk_drew ?_ | refine blk_alloc ?_ _)); exact BK196.out) hb); replace HB := Aside0.mk (below_step bel hb); (try clear hb); (try clear hb2); (try clear hk); (try clear hi)))
   go_ret2
   exact ⟨_, ezz, by first | exact Kd.R_nil _ _ _ _ _ | exact Kd.N_nil _ _ _ _ _ | exact Kd.V_nil _ _ _ _ _ | exact Kd.Q_nil _ _ _ _ _ | exact Kd.S_nil _ _ _ _ _, bel⟩
  ·
   replace c7 := Bool.eq_false_iff.mpr c7
   subst c7
   have H1 : ((feed_grid_least.f k t188 l0_1 l0_2 a1 a2).bind fun t198 => ((feed_list.f k t198).bind fun t199 => (some (t199, 0)))) = some (r1, r2) := by rw [if_neg (show ¬ (false = true) by decide)] at H; exact H
   clear H
   have H := H1
   clear H1
   replace H := Option.bind_eq_some_iff.mp H
   obtain ⟨t198, A150, H⟩ := H
   replace H : ((feed_list.f k t198).bind fun t199 => (some (t199, 0))) = some (r1, r2) := H
   have A15 := Aside0.mk A150
   clear A150
   replace H := Option.bind_eq_some_iff.mp H
   obtain ⟨t199, A160, H⟩ := H
   replace H : (some (t199, 0)) = some (r1, r2) := H
   have A16 := Aside0.mk A160
   clear A160
   simp only [Option.some.injEq, Prod.mk.injEq] at H
   obtain ⟨rfl, rfl⟩ := H
   go_enter Tryd.func24, Tryd.ntmps24
   go_wp2_with (first | ((with_reducible refine gate_dst (N := 3) rfl ?_); refine box_event ?hg (N := 3) ?hd (cs := #[.int .i64 a0_0, .slice A0_1 l0_1.length c0_1, .slice A0_2 l0_2.length c0_2]) (t := 25) ?hr ?_; (case hd => rfl); (case hg => rfl); (case hr => first | (go_simp; done) | (go_simp; rfl)); intro gb187 hg w17 hbox hb; have BK187 := Aside0.mk (hbox); have GW187 := bsz (w := w) hg; have GE187 := GW187; replace HB := Aside0.mk (below_step bel hb); clear hb hbox hg; have hcz18_0 := blkc BK187.out 0 (.int .i64 a0_0) rfl; have hcz18_1 := blkc BK187.out 1 (.slice A0_1 l0_1.length c0_1) rfl; have hcz18_2 := blkc BK187.out 2 (.slice A0_2 l0_2.length c0_2) rfl) | ((with_reducible refine gate_callee (f := 59) rfl ?_); refine goesL_ (some 14) rfl rfl Tryd.func59 (by kernel_rfl) rfl #[.agg #[.int .i64 a0_0, .slice A0_1 l0_1.length c0_1, .slice A0_2 l0_2.length c0_2], .int .i64 a1, .int .i64 a2] rfl mapz ?_; (with_reducible refine (feed_asked.calls a0_0 _ _ l0_1 _ _ l0_2 a1 a2 t188 t195 _ ?side1 ?side2 ?side3 ?side4 A4.out).mono ?_); (case side1 => exact cbz HR0_1); (case side2 => exact HC0_1.out); (case side3 => exact cbz HR0_2); (case side4 => exact HC0_2.out); rintro e w19 ⟨rfl, hb⟩; refine ⟨_, rfl, ?_⟩; replace BK187 := Aside0.mk (blk_below (g := gb187) blkz hb); replace HB := Aside0.mk (below_step bel hb); (try clear hb); (try clear hb2); (try clear hk); (try clear hi)) | ((with_reducible refine gate_dst (N := 8) rfl ?_); refine box_event ?hg (N := 8) ?hd (cs := #[.int .i64 0, .slice none 0 0, .slice none 0 0]) (t := 73) ?hr ?_; (case hd => rfl); (case hg => rfl); (case hr => first | (go_simp; done) | (go_simp; rfl)); intro gb196 hg w20 hbox hb; have BK196 := Aside0.mk (hbox); have GW196 := bsz (w := w) hg; have GE196 := GW196; have NB187_196 := neL (g := gb187) hg; have NB196_187 := neR (g := gb187) hg; replace BK187 := Aside0.mk (blk_below (g := gb187) blkz hb); replace HB := Aside0.mk (below_step bel hb); clear hb hbox hg; have hnb21 := NB196_187.out; have hnc21 := NB187_196.out; have hcz22_0 := blkc BK196.out 0 (.int .i64 0) rfl; have hcz22_1 := blkc BK196.out 1 (.slice none 0 0) rfl; have hcz22_2 := blkc BK196.out 2 (.slice none 0 0) rfl; have hfz22_0 := blk_frozen BK196.out 0; have hfz22_1 := blk_frozen BK196.out 1; have hfz22_2 := blk_frozen BK196.out 2) | ((with_reducible refine gate_callee (f := 62) rfl ?_); refine goesL_ (some 24) rfl rfl Tryd.func62 (by kernel_rfl) rfl #[.agg #[.int .i64 t188, .slice A0_1 l0_1.length c0_1, .slice A0_2 l0_2.length c0_2], .int .i64 a2] rfl mapz ?_; (with_reducible refine (feed_grid_atHome.calls t188 _ _ l0_1 _ _ l0_2 a2 false _ ?side1 ?side2 ?side3 ?side4 A6.out).mono ?_); (case side1 => exact cbz HR0_1); (case side2 => exact HC0_1.out); (case side3 => exact cbz HR0_2); (case side4 => exact HC0_2.out); rintro e w23 ⟨rfl, hb⟩; refine ⟨_, rfl, ?_⟩; replace BK187 := Aside0.mk (blk_below (g := gb187) (o := .cells #[.int .i64 a0_0, .slice A0_1 l0_1.length c0_1, .slice A0_2 l0_2.length c0_2] 25 (0, 0)) (by (with_reducible repeat (first | refine blk_drewN ?_ _ | refine blk_drew ?_ | refine blk_alloc ?_ _)); refine blk_far ?_ NB187_196.out _; (with_reducible repeat (first | refine blk_drewN ?_ _ | refine blk_drew ?_ | refine blk_alloc ?_ _)); refine blk_far ?_ NB187_196.out _; (with_reducible repeat (first | refine blk_drewN ?_ _ | refine blk_drew ?_ | refine blk_alloc ?_ _)); refine blk_far ?_ NB187_196.out _; (with_reducible repeat (first | refine blk_drewN ?_ _ | refine blk_drew ?_ | refine blk_alloc ?_ _)); exact BK187.out) hb); replace BK196 := Aside0.mk (blk_below (g := gb196) (o := .cells #[.int .i64 t188, .slice A0_1 l0_1.length c0_1, .slice A0_2 l0_2.length c0_2] 73 (0, 0)) (by (with_reducible repeat (first | refine blk_drewN ?_ _ | refine blk_drew ?_ | refine blk_alloc ?_ _)); refine blk_put (cs := #[.int .i64 t188, .slice A0_1 l0_1.length c0_1, .slice none 0 0]) ?_ 2 _ rfl; (with_reducible repeat (first | refine blk_drewN ?_ _ | refine blk_drew ?_ | refine blk_alloc ?_ _)); refine blk_put (cs := #[.int .i64 t188, .slice none 0 0, .slice none 0 0]) ?_ 1 _ rfl; (with_reducible repeat (first | refine blk_drewN ?_ _ | refine blk_drew ?_ | refine blk_alloc ?_ _)); refine blk_put (cs := #[.int .i64 0, .slice none 0 0, .slice none 0 0]) ?_ 0 _ rfl; (with_reducible repeat (first | refine blk_drewN ?_ _ | refine blk_drew ?_ | refine blk_alloc ?_ _)); exact BK196.out) hb); replace HB := Aside0.mk (below_step bel hb); (try clear hb); (try clear hb2); (try clear hk); (try clear hi); have hcz24_0 := blkc BK196.out 0 (.int .i64 t188) rfl; have hcz24_1 := blkc BK196.out 1 (.slice A0_1 l0_1.length c0_1) rfl; have hcz24_2 := blkc BK196.out 2 (.slice A0_2 l0_2.length c0_2) rfl; have hfz24_0 := blk_frozen BK196.out 0; have hfz24_1 := blk_frozen BK196.out 1; have hfz24_2 := blk_frozen BK196.out 2) | ((with_reducible refine gate_callee (f := 64) rfl ?_); refine goesL_ (some 28) rfl rfl Tryd.func64 (by kernel_rfl) rfl #[.agg #[.int .i64 t188, .slice A0_1 l0_1.length c0_1, .slice A0_2 l0_2.length c0_2], .int .i64 a1, .int .i64 a2] rfl mapz ?_; (with_reducible refine (feed_grid_least.calls k t188 _ _ l0_1 _ _ l0_2 a1 a2 t198 _ ?side1 ?side2 ?side3 ?side4 A15.out).mono ?_); (case side1 => exact cbz HR0_1); (case side2 => exact HC0_1.out); (case side3 => exact cbz HR0_2); (case side4 => exact HC0_2.out); rintro e w25 ⟨rfl, hb⟩; refine ⟨_, rfl, ?_⟩; replace BK187 := Aside0.mk (blk_below (g := gb187) blkz hb); replace BK196 := Aside0.mk (blk_below (g := gb196) blkz hb); replace HB := Aside0.mk (below_step bel hb); (try clear hb); (try clear hb2); (try clear hk); (try clear hi)) | ((with_reducible refine gate_callee (f := 63) rfl ?_); refine goesL_ (some 29) rfl rfl Tryd.func63 (by kernel_rfl) rfl #[.int .i64 t198] rfl mapz ?_; (with_reducible refine (feed_list.calls k t198 t199 _ ?sideT A16.out).mono ?_); (case sideT => first | exact HT.out | exact Tab.Tabs.below HT.out bel | (with_reducible repeat (first | exact HT.out | apply Tab.Tabs.alloc | apply Tab.Tabs.drewN | apply Tab.Tabs.drew))); rintro e w26 ⟨v200, rfl, ho0, hb⟩; refine ⟨_, rfl, ?_⟩; have HO201 := Aside0.mk (Kd.R_lower ho0 (below_size bel)); replace BK187 := Aside0.mk (blk_below (g := gb187) blkz hb); replace BK196 := Aside0.mk (blk_below (g := gb196) blkz hb); replace HB := Aside0.mk (below_step bel hb); (try clear hb); (try clear hb2); (try clear hk); (try clear hi); (try clear ho0)))
   go_ret2
   exact ⟨_, ezz, by (with_reducible repeat (first | apply Kd.R_alloc | apply Kd.R_drewN | apply Kd.R_drew)); exact HO201.out, bel⟩
 ·
  rw [if_neg c5] at H
  have c5b0 : (t195 == 0) = false := beq_eq_false_iff_ne.mpr c5
  have c5b1 : (t195 != 0) = true := bne_iff_ne.mpr c5
  simp only [Option.some.injEq, Prod.mk.injEq] at H
  obtain ⟨rfl, rfl⟩ := H
  go_enter Tryd.func24, Tryd.ntmps24
  go_wp2_with (first | ((with_reducible refine gate_dst (N := 3) rfl ?_); refine box_event ?hg (N := 3) ?hd (cs := #[.int .i64 a0_0, .slice A0_1 l0_1.length c0_1, .slice A0_2 l0_2.length c0_2]) (t := 25) ?hr ?_; (case hd => rfl); (case hg => rfl); (case hr => first | (go_simp; done) | (go_simp; rfl)); intro gb187 hg w27 hbox hb; have BK187 := Aside0.mk (hbox); have GW187 := bsz (w := w) hg; have GE187 := GW187; replace HB := Aside0.mk (below_step bel hb); clear hb hbox hg; have hcz28_0 := blkc BK187.out 0 (.int .i64 a0_0) rfl; have hcz28_1 := blkc BK187.out 1 (.slice A0_1 l0_1.length c0_1) rfl; have hcz28_2 := blkc BK187.out 2 (.slice A0_2 l0_2.length c0_2) rfl) | ((with_reducible refine gate_callee (f := 59) rfl ?_); refine goesL_ (some 14) rfl rfl Tryd.func59 (by kernel_rfl) rfl #[.agg #[.int .i64 a0_0, .slice A0_1 l0_1.length c0_1, .slice A0_2 l0_2.length c0_2], .int .i64 a1, .int .i64 a2] rfl mapz ?_; (with_reducible refine (feed_asked.calls a0_0 _ _ l0_1 _ _ l0_2 a1 a2 t188 t195 _ ?side1 ?side2 ?side3 ?side4 A4.out).mono ?_); (case side1 => exact cbz HR0_1); (case side2 => exact HC0_1.out); (case side3 => exact cbz HR0_2); (case side4 => exact HC0_2.out); rintro e w29 ⟨rfl, hb⟩; refine ⟨_, rfl, ?_⟩; replace BK187 := Aside0.mk (blk_below (g := gb187) blkz hb); replace HB := Aside0.mk (below_step bel hb); (try clear hb); (try clear hb2); (try clear hk); (try clear hi)) | ((with_reducible refine gate_dst (N := 8) rfl ?_); refine box_event ?hg (N := 8) ?hd (cs := #[.int .i64 0, .slice none 0 0, .slice none 0 0]) (t := 73) ?hr ?_; (case hd => rfl); (case hg => rfl); (case hr => first | (go_simp; done) | (go_simp; rfl)); intro gb196 hg w30 hbox hb; have BK196 := Aside0.mk (hbox); have GW196 := bsz (w := w) hg; have GE196 := GW196; have NB187_196 := neL (g := gb187) hg; have NB196_187 := neR (g := gb187) hg; replace BK187 := Aside0.mk (blk_below (g := gb187) blkz hb); replace HB := Aside0.mk (below_step bel hb); clear hb hbox hg; have hnb31 := NB196_187.out; have hnc31 := NB187_196.out; have hcz32_0 := blkc BK196.out 0 (.int .i64 0) rfl; have hcz32_1 := blkc BK196.out 1 (.slice none 0 0) rfl; have hcz32_2 := blkc BK196.out 2 (.slice none 0 0) rfl; have hfz32_0 := blk_frozen BK196.out 0; have hfz32_1 := blk_frozen BK196.out 1; have hfz32_2 := blk_frozen BK196.out 2))
  go_ret2
  exact ⟨_, ezz, by first | exact Kd.R_nil _ _ _ _ _ | exact Kd.N_nil _ _ _ _ _ | exact Kd.V_nil _ _ _ _ _ | exact Kd.Q_nil _ _ _ _ _ | exact Kd.S_nil _ _ _ _ _, bel⟩

/-! ### dropperlaw05_First: function 12 -/
def dropperlaw05_First.f (k : Nat)  : Option (Bool) := (feed_Isolate.f k 3 (([(⟨0, 1⟩ : S69), (⟨1, 2⟩ : S69), (⟨0, 2⟩ : S69)] : List (S69))) (([(⟨0, 1⟩ : S71)] : List (S71))) 7 2).bind fun bt209 => ((feed_States.f k 2 (([(⟨0, 1⟩ : S69)] : List (S69))) (([(⟨0, 1⟩ : S71), (⟨1, 2⟩ : S71)] : List (S71)))).bind fun bt219 => (if bt209.2 = 0 then (if bt219.2 = 0 then (if (bt209.1.length : Int) = 2 then (some (bt219.1 == 1)) else (some false)) else (some false)) else (some false)))
theorem dropperlaw05_First.mono : ∀ k, LeO (dropperlaw05_First.f k ) (dropperlaw05_First.f (k + 1) ) := by
 intro  k
 unfold dropperlaw05_First.f
 repeat' first
   | (with_reducible exact feed_Isolate.mono _ _ _ _ _ _)
   | (with_reducible exact feed_States.mono _ _ _ _)
   | (with_reducible exact LeO.refl _)
   | (with_reducible exact LeO.none _)
   | (with_reducible refine LeO.ite ?_ ?_)
   | (with_reducible refine LeO.bind ?_ (fun _ => ?_))
   | exact feed_Isolate.mono _ _ _ _ _ _
   | exact feed_States.mono _ _ _ _
   | exact LeO.none _
   | refine LeO.ite ?_ ?_
   | refine LeO.bind ?_ (fun _ => ?_)
set_option maxHeartbeats 8000000 in
set_option maxRecDepth 100000 in
theorem dropperlaw05_First.calls (k : Nat)  (r : Bool) (w : World) (hT : Tab.Tabs w) (h : dropperlaw05_First.f k  = some r) :
  Calls Tryd.prog 12 #[] w fun e w' => e = .returned (.bool r) ∧ Below w.heap.size w w' := by
 have HT := Aside0.mk hT
 clear hT
 have hu69 := Tryd.underlying69
 have hu71 := Tryd.underlying71
 have hu25 := Tryd.underlying25
 have HB := Aside0.mk (Below.refl w.heap.size w)
 have H : ((feed_Isolate.f k 3 (([(⟨0, 1⟩ : S69), (⟨1, 2⟩ : S69), (⟨0, 2⟩ : S69)] : List (S69))) (([(⟨0, 1⟩ : S71)] : List (S71))) 7 2).bind fun bt209 => ((feed_States.f k 2 (([(⟨0, 1⟩ : S69)] : List (S69))) (([(⟨0, 1⟩ : S71), (⟨1, 2⟩ : S71)] : List (S71)))).bind fun bt219 => (if bt209.2 = 0 then (if bt219.2 = 0 then (if (bt209.1.length : Int) = 2 then (some (bt219.1 == 1)) else (some false)) else (some false)) else (some false)))) = some r := h
 clear h
 obtain ⟨y202, hy202⟩ : ∃ y_ : List (S69), y_ = (([(⟨0, 1⟩ : S69), (⟨1, 2⟩ : S69), (⟨0, 2⟩ : S69)] : List (S69))) := ⟨_, rfl⟩
 replace H : ((feed_Isolate.f k 3 y202 (([(⟨0, 1⟩ : S71)] : List (S71))) 7 2).bind fun bt209 => ((feed_States.f k 2 (([(⟨0, 1⟩ : S69)] : List (S69))) (([(⟨0, 1⟩ : S71), (⟨1, 2⟩ : S71)] : List (S71)))).bind fun bt219 => (if bt209.2 = 0 then (if bt219.2 = 0 then (if (bt209.1.length : Int) = 2 then (some (bt219.1 == 1)) else (some false)) else (some false)) else (some false)))) = some r := by first | (rw [hy202]; with_reducible exact H) | (have H2_ := (Option.bind_some _ _).symm.trans H; rw [hy202]; with_reducible exact H2_) | (have H2_ := (Option.bind_some _ _).symm.trans H; with_reducible exact H2_) | with_reducible exact H | (rw [hy202]; exact H) | exact H
 have Ny202 := Aside0.mk hy202
 clear hy202
 obtain ⟨y205, hy205⟩ : ∃ y_ : List (S71), y_ = (([(⟨0, 1⟩ : S71)] : List (S71))) := ⟨_, rfl⟩
 replace H : ((feed_Isolate.f k 3 y202 y205 7 2).bind fun bt209 => ((feed_States.f k 2 (([(⟨0, 1⟩ : S69)] : List (S69))) (([(⟨0, 1⟩ : S71), (⟨1, 2⟩ : S71)] : List (S71)))).bind fun bt219 => (if bt209.2 = 0 then (if bt219.2 = 0 then (if (bt209.1.length : Int) = 2 then (some (bt219.1 == 1)) else (some false)) else (some false)) else (some false)))) = some r := by first | (rw [hy205]; with_reducible exact H) | (have H2_ := (Option.bind_some _ _).symm.trans H; rw [hy205]; with_reducible exact H2_) | (have H2_ := (Option.bind_some _ _).symm.trans H; with_reducible exact H2_) | with_reducible exact H | (rw [hy205]; exact H) | exact H
 have Ny205 := Aside0.mk hy205
 clear hy205
 replace H := Option.bind_eq_some_iff.mp H
 obtain ⟨⟨t209, t212⟩, A10, H⟩ := H
 replace H : ((feed_States.f k 2 (([(⟨0, 1⟩ : S69)] : List (S69))) (([(⟨0, 1⟩ : S71), (⟨1, 2⟩ : S71)] : List (S71)))).bind fun bt219 => (if t212 = 0 then (if bt219.2 = 0 then (if (t209.length : Int) = 2 then (some (bt219.1 == 1)) else (some false)) else (some false)) else (some false))) = some r := H
 have A1 := Aside0.mk A10
 clear A10
 obtain ⟨y213, hy213⟩ : ∃ y_ : List (S69), y_ = (([(⟨0, 1⟩ : S69)] : List (S69))) := ⟨_, rfl⟩
 replace H : ((feed_States.f k 2 y213 (([(⟨0, 1⟩ : S71), (⟨1, 2⟩ : S71)] : List (S71)))).bind fun bt219 => (if t212 = 0 then (if bt219.2 = 0 then (if (t209.length : Int) = 2 then (some (bt219.1 == 1)) else (some false)) else (some false)) else (some false))) = some r := by first | (rw [hy213]; with_reducible exact H) | (have H2_ := (Option.bind_some _ _).symm.trans H; rw [hy213]; with_reducible exact H2_) | (have H2_ := (Option.bind_some _ _).symm.trans H; with_reducible exact H2_) | with_reducible exact H | (rw [hy213]; exact H) | exact H
 have Ny213 := Aside0.mk hy213
 clear hy213
 obtain ⟨y216, hy216⟩ : ∃ y_ : List (S71), y_ = (([(⟨0, 1⟩ : S71), (⟨1, 2⟩ : S71)] : List (S71))) := ⟨_, rfl⟩
 replace H : ((feed_States.f k 2 y213 y216).bind fun bt219 => (if t212 = 0 then (if bt219.2 = 0 then (if (t209.length : Int) = 2 then (some (bt219.1 == 1)) else (some false)) else (some false)) else (some false))) = some r := by first | (rw [hy216]; with_reducible exact H) | (have H2_ := (Option.bind_some _ _).symm.trans H; rw [hy216]; with_reducible exact H2_) | (have H2_ := (Option.bind_some _ _).symm.trans H; with_reducible exact H2_) | with_reducible exact H | (rw [hy216]; exact H) | exact H
 have Ny216 := Aside0.mk hy216
 clear hy216
 replace H := Option.bind_eq_some_iff.mp H
 obtain ⟨⟨t219, t220⟩, A20, H⟩ := H
 replace H : (if t212 = 0 then (if t220 = 0 then (if (t209.length : Int) = 2 then (some (t219 == 1)) else (some false)) else (some false)) else (some false)) = some r := H
 have A2 := Aside0.mk A20
 clear A20
 by_cases c3 : t212 = 0
 ·
  rw [if_pos c3] at H
  have c3b0 : (t212 == 0) = true := beq_iff_eq.mpr c3
  have c3b1 : (t212 != 0) = false := bne_eq_false_iff_eq.mpr c3
  clear c3
  by_cases c4 : t220 = 0
  ·
   rw [if_pos c4] at H
   have c4b0 : (t220 == 0) = true := beq_iff_eq.mpr c4
   have c4b1 : (t220 != 0) = false := bne_eq_false_iff_eq.mpr c4
   clear c4
   by_cases c5 : (t209.length : Int) = 2
   ·
    rw [if_pos c5] at H
    have c5b0 : ((t209.length : Int) == 2) = true := beq_iff_eq.mpr c5
    have c5b1 : ((t209.length : Int) != 2) = false := bne_eq_false_iff_eq.mpr c5
    clear c5
    obtain rfl := Option.some.inj H
    go_enter Tryd.func12, Tryd.ntmps12
    go_wp2_with (first | ((with_reducible refine gate_dst (N := 9) rfl ?_); (try (refine gate_guard (by rfl) ?_; dsimp only)); refine Kd.R_lit k69 _ 69 ?hg (N := 9) ?hd (xs := ([(⟨0, 1⟩ : S69), (⟨1, 2⟩ : S69), (⟨0, 2⟩ : S69)] : List (S69))) (inner := [.int .i64 0, .int .i64 1, .int .i64 1, .int .i64 2, .int .i64 0, .int .i64 2]) (ok := fun _ => True) (okp := fun _ => True) ?hr ?hp (fun _ hk => hk) trivial (Below.refl _ _) (Nat.le_refl _) (by simp) ?_; (case hd => rfl); (case hg => rfl); (case hr => first | (go_simp; done) | (go_simp; rfl)); (case hp => exact (Reps.c2 (show Kd.M k69 _ _ _ (⟨0, 1⟩ : S69) [.int .i64 0, .int .i64 1] from (k69_mkM _ _ _ (⟨0, 1⟩ : S69) )) (Reps.c2 (show Kd.M k69 _ _ _ (⟨1, 2⟩ : S69) [.int .i64 1, .int .i64 2] from (k69_mkM _ _ _ (⟨1, 2⟩ : S69) )) (Reps.c2 (show Kd.M k69 _ _ _ (⟨0, 2⟩ : S69) [.int .i64 0, .int .i64 2] from (k69_mkM _ _ _ (⟨0, 2⟩ : S69) )) (Reps.none _ _))))); intro v203 w6 ho7 hb hg_ hnew_; clear hg_ hnew_; (first | rw [← Ny202.out] at ho7 | (simp only [Int.reduceToNat] at ho7; rw [← Ny202.out] at ho7)); have HO204 := Aside0.mk (Kd.R_lower ho7 (below_size bel)); replace HB := Aside0.mk (below_step bel hb); clear hb ho7) | ((with_reducible refine gate_dst (N := 11) rfl ?_); (try (refine gate_guard (by rfl) ?_; dsimp only)); refine Kd.R_lit k71 _ 71 ?hg (N := 11) ?hd (xs := ([(⟨0, 1⟩ : S71)] : List (S71))) (inner := [.int .i64 0, .int .i64 1]) (ok := fun _ => True) (okp := fun _ => True) ?hr ?hp (fun _ hk => hk) trivial (Below.refl _ _) (Nat.le_refl _) (by simp) ?_; (case hd => rfl); (case hg => rfl); (case hr => first | (go_simp; done) | (go_simp; rfl)); (case hp => exact (Reps.c2 (show Kd.M k71 _ _ _ (⟨0, 1⟩ : S71) [.int .i64 0, .int .i64 1] from (k71_mkM _ _ _ (⟨0, 1⟩ : S71) )) (Reps.none _ _))); intro v206 w8 ho9 hb hg_ hnew_; clear hg_ hnew_; (first | rw [← Ny205.out] at ho9 | (simp only [Int.reduceToNat] at ho9; rw [← Ny205.out] at ho9)); have HO207 := Aside0.mk (Kd.R_lower ho9 (below_size bel)); replace HO204 := Aside0.mk (Kd.R_below (ownx HO204) hb); replace HB := Aside0.mk (below_step bel hb); clear hb ho9; obtain ⟨Ao10, co10, eo10⟩ := Kd.R_slice HO207.out; subst eo10; obtain ⟨Ao11, co11, eo11⟩ := Kd.R_slice HO204.out; subst eo11) | ((with_reducible refine gate_dst (N := 1) rfl ?_); (try (refine gate_guard (by rfl) ?_; dsimp only)); refine box_event ?hg (N := 1) ?hd (cs := #[.int .i64 0, .slice none 0 0, .slice none 0 0]) (t := 25) ?hr ?_; (case hd => rfl); (case hg => rfl); (case hr => first | (go_simp; done) | (go_simp; rfl)); intro gb208 hg w12 hbox hb; have BK208 := Aside0.mk (hbox); have GW208 := bsz (w := w) hg; have GE208 := GW208; replace HO204 := Aside0.mk (Kd.R_below (ownx HO204) hb); replace HO207 := Aside0.mk (Kd.R_below (ownx HO207) hb); replace HB := Aside0.mk (below_step bel hb); clear hb hbox hg; have hcz13_0 := blkc BK208.out 0 (.int .i64 0) rfl; have hcz13_1 := blkc BK208.out 1 (.slice none 0 0) rfl; have hcz13_2 := blkc BK208.out 2 (.slice none 0 0) rfl; have hfz13_0 := blk_frozen BK208.out 0; have hfz13_1 := blk_frozen BK208.out 1; have hfz13_2 := blk_frozen BK208.out 2) | ((with_reducible refine gate_callee (f := 24) rfl ?_); refine goesL_ (some 15) rfl rfl Tryd.func24 (by kernel_rfl) rfl #[.agg #[.int .i64 3, .slice Ao11 y202.length co11, .slice Ao10 y205.length co10], .int .i64 7, .int .i64 2] rfl mapz ?_; (with_reducible refine (feed_Isolate.calls k 3 _ _ y202 _ _ y205 7 2 t209 t212 _ ?side1 ?side2 ?side3 ?side4 ?sideT A1.out).mono ?_); (case sideT => first | exact HT.out | exact Tab.Tabs.below HT.out bel | (with_reducible repeat (first | exact HT.out | apply Tab.Tabs.alloc | apply Tab.Tabs.drewN | apply Tab.Tabs.drew))); (case side1 => refine (Kd.R_reads' (e := 69) (base := w.heap.size) (ok := fun k_ => True) (n := y202.length) (c := co11) ?_).2.2; exact (by (with_reducible repeat (first | apply Kd.R_alloc | apply Kd.R_drewN | apply Kd.R_drew)); exact (Kd.R_mono (Kd.R_far (p := ⟨gb208, 2, none⟩) (Kd.R_far (p := ⟨gb208, 1, none⟩) (Kd.R_far (p := ⟨gb208, 0, none⟩) (Kd.R_types HO204.out BK208.out (by decide)) (fun _ hk => hk.2) (.int .i64 3)) (fun _ hk => hk.2) (.slice Ao11 y202.length co11)) (fun _ hk => hk.2) (.slice Ao10 y205.length co10)) (fun _ h_ => h_.1)))); (case side2 => exact (Kd.R_reads' HO204.out).2.1); (case side3 => refine (Kd.R_reads' (e := 71) (base := w.heap.size) (ok := fun k_ => True) (n := y205.length) (c := co10) ?_).2.2; exact (by (with_reducible repeat (first | apply Kd.R_alloc | apply Kd.R_drewN | apply Kd.R_drew)); exact (Kd.R_mono (Kd.R_far (p := ⟨gb208, 2, none⟩) (Kd.R_far (p := ⟨gb208, 1, none⟩) (Kd.R_far (p := ⟨gb208, 0, none⟩) (Kd.R_types HO207.out BK208.out (by decide)) (fun _ hk => hk.2) (.int .i64 3)) (fun _ hk => hk.2) (.slice Ao11 y202.length co11)) (fun _ hk => hk.2) (.slice Ao10 y205.length co10)) (fun _ h_ => h_.1)))); (case side4 => exact (Kd.R_reads' HO207.out).2.1); rintro e w14 ⟨v210, rfl, ho0, hb⟩; refine ⟨_, rfl, ?_⟩; have HO211 := Aside0.mk (Kd.R_lower ho0 (below_size bel)); replace HO204 := Aside0.mk (Kd.R_below (by (with_reducible repeat (first | apply Kd.R_alloc | apply Kd.R_drewN | apply Kd.R_drew)); exact (Kd.R_mono (Kd.R_far (p := ⟨gb208, 2, none⟩) (Kd.R_far (p := ⟨gb208, 1, none⟩) (Kd.R_far (p := ⟨gb208, 0, none⟩) (Kd.R_types HO204.out BK208.out (by decide)) (fun _ hk => hk.2) (.int .i64 3)) (fun _ hk => hk.2) (.slice Ao11 y202.length co11)) (fun _ hk => hk.2) (.slice Ao10 y205.length co10)) (fun _ h_ => h_.1))) hb); replace HO207 := Aside0.mk (Kd.R_below (by (with_reducible repeat (first | apply Kd.R_alloc | apply Kd.R_drewN | apply Kd.R_drew)); exact (Kd.R_mono (Kd.R_far (p := ⟨gb208, 2, none⟩) (Kd.R_far (p := ⟨gb208, 1, none⟩) (Kd.R_far (p := ⟨gb208, 0, none⟩) (Kd.R_types HO207.out BK208.out (by decide)) (fun _ hk => hk.2) (.int .i64 3)) (fun _ hk => hk.2) (.slice Ao11 y202.length co11)) (fun _ hk => hk.2) (.slice Ao10 y205.length co10)) (fun _ h_ => h_.1))) hb); replace BK208 := Aside0.mk (blk_below (g := gb208) (o := .cells #[.int .i64 3, .slice Ao11 y202.length co11, .slice Ao10 y205.length co10] 25 (0, 0)) (by (with_reducible repeat (first | refine blk_drewN ?_ _ | refine blk_drew ?_ | refine blk_alloc ?_ _)); refine blk_put (cs := #[.int .i64 3, .slice Ao11 y202.length co11, .slice none 0 0]) ?_ 2 _ rfl; (with_reducible repeat (first | refine blk_drewN ?_ _ | refine blk_drew ?_ | refine blk_alloc ?_ _)); refine blk_put (cs := #[.int .i64 3, .slice none 0 0, .slice none 0 0]) ?_ 1 _ rfl; (with_reducible repeat (first | refine blk_drewN ?_ _ | refine blk_drew ?_ | refine blk_alloc ?_ _)); refine blk_put (cs := #[.int .i64 0, .slice none 0 0, .slice none 0 0]) ?_ 0 _ rfl; (with_reducible repeat (first | refine blk_drewN ?_ _ | refine blk_drew ?_ | refine blk_alloc ?_ _)); exact BK208.out) hb); replace HB := Aside0.mk (below_step bel hb); (try clear hb); (try clear hb2); (try clear hk); (try clear hi); (try clear ho0)) | ((with_reducible refine gate_dst (N := 20) rfl ?_); (try (refine gate_guard (by rfl) ?_; dsimp only)); refine Kd.R_lit k69 _ 69 ?hg (N := 20) ?hd (xs := ([(⟨0, 1⟩ : S69)] : List (S69))) (inner := [.int .i64 0, .int .i64 1]) (ok := fun _ => True) (okp := fun _ => True) ?hr ?hp (fun _ hk => hk) trivial (Below.refl _ _) (Nat.le_refl _) (by simp) ?_; (case hd => rfl); (case hg => rfl); (case hr => first | (go_simp; done) | (go_simp; rfl)); (case hp => exact (Reps.c2 (show Kd.M k69 _ _ _ (⟨0, 1⟩ : S69) [.int .i64 0, .int .i64 1] from (k69_mkM _ _ _ (⟨0, 1⟩ : S69) )) (Reps.none _ _))); intro v214 w15 ho16 hb hg_ hnew_; clear hg_ hnew_; (first | rw [← Ny213.out] at ho16 | (simp only [Int.reduceToNat] at ho16; rw [← Ny213.out] at ho16)); have HO215 := Aside0.mk (Kd.R_lower (Kd.R_new' ho16 (Kd.R_lt (ownx HO204))) (below_size bel)); replace HO204 := Aside0.mk (Kd.R_elder' (ownx HO204) (Kd.R_base ho16) hb); replace HO207 := Aside0.mk (Kd.R_below (ownx HO207) hb); replace HO211 := Aside0.mk (Kd.R_below (ownx HO211) hb); replace BK208 := Aside0.mk (blk_below (g := gb208) blkz hb); replace HB := Aside0.mk (below_step bel hb); clear hb ho16) | ((with_reducible refine gate_dst (N := 23) rfl ?_); (try (refine gate_guard (by rfl) ?_; dsimp only)); refine Kd.R_lit k71 _ 71 ?hg (N := 23) ?hd (xs := ([(⟨0, 1⟩ : S71), (⟨1, 2⟩ : S71)] : List (S71))) (inner := [.int .i64 0, .int .i64 1, .int .i64 1, .int .i64 2]) (ok := fun _ => True) (okp := fun _ => True) ?hr ?hp (fun _ hk => hk) trivial (Below.refl _ _) (Nat.le_refl _) (by simp) ?_; (case hd => rfl); (case hg => rfl); (case hr => first | (go_simp; done) | (go_simp; rfl)); (case hp => exact (Reps.c2 (show Kd.M k71 _ _ _ (⟨0, 1⟩ : S71) [.int .i64 0, .int .i64 1] from (k71_mkM _ _ _ (⟨0, 1⟩ : S71) )) (Reps.c2 (show Kd.M k71 _ _ _ (⟨1, 2⟩ : S71) [.int .i64 1, .int .i64 2] from (k71_mkM _ _ _ (⟨1, 2⟩ : S71) )) (Reps.none _ _)))); intro v217 w17 ho18 hb hg_ hnew_; clear hg_ hnew_; (first | rw [← Ny216.out] at ho18 | (simp only [Int.reduceToNat] at ho18; rw [← Ny216.out] at ho18)); have HO218 := Aside0.mk (Kd.R_lower (Kd.R_new' ho18 (Kd.R_lt (ownx HO207))) (below_size bel)); replace HO204 := Aside0.mk (Kd.R_below (ownx HO204) hb); replace HO207 := Aside0.mk (Kd.R_elder' (ownx HO207) (Kd.R_base ho18) hb); replace HO211 := Aside0.mk (Kd.R_below (ownx HO211) hb); replace HO215 := Aside0.mk (Kd.R_below (ownx HO215) hb); replace BK208 := Aside0.mk (blk_below (g := gb208) blkz hb); replace HB := Aside0.mk (below_step bel hb); clear hb ho18; obtain ⟨Ao19, co19, eo19⟩ := Kd.R_slice HO218.out; subst eo19; obtain ⟨Ao20, co20, eo20⟩ := Kd.R_slice HO215.out; subst eo20) | ((with_reducible refine gate_callee (f := 17) rfl ?_); refine goesL_ (some 25) rfl rfl Tryd.func17 (by kernel_rfl) rfl #[.agg #[.int .i64 2, .slice Ao20 y213.length co20, .slice Ao19 y216.length co19]] rfl mapz ?_; (with_reducible refine (feed_States.calls k 2 _ _ y213 _ _ y216 t219 t220 _ ?side1 ?side2 ?side3 ?side4 ?sideT A2.out).mono ?_); (case sideT => first | exact HT.out | exact Tab.Tabs.below HT.out bel | (with_reducible repeat (first | exact HT.out | apply Tab.Tabs.alloc | apply Tab.Tabs.drewN | apply Tab.Tabs.drew))); (case side1 => repeat (first | exact (Kd.R_reads' HO215.out).2.2 | (with_reducible refine Kd.C_alloc ?_ _) | (with_reducible refine Kd.C_drewN ?_ _) | (with_reducible refine Kd.C_drew ?_))); (case side2 => exact (Kd.R_reads' HO215.out).2.1); (case side3 => repeat (first | exact (Kd.R_reads' HO218.out).2.2 | (with_reducible refine Kd.C_alloc ?_ _) | (with_reducible refine Kd.C_drewN ?_ _) | (with_reducible refine Kd.C_drew ?_))); (case side4 => exact (Kd.R_reads' HO218.out).2.1); rintro e w21 ⟨rfl, hb⟩; refine ⟨_, rfl, ?_⟩; replace HO204 := Aside0.mk (Kd.R_below (ownx HO204) hb); replace HO207 := Aside0.mk (Kd.R_below (ownx HO207) hb); replace HO211 := Aside0.mk (Kd.R_below (ownx HO211) hb); replace HO215 := Aside0.mk (Kd.R_below (ownx HO215) hb); replace HO218 := Aside0.mk (Kd.R_below (ownx HO218) hb); replace BK208 := Aside0.mk (blk_below (g := gb208) blkz hb); replace HB := Aside0.mk (below_step bel hb); (try clear hb); (try clear hb2); (try clear hk); (try clear hi); obtain ⟨Ao22, co22, eo22⟩ := Kd.R_slice HO211.out; subst eo22))
    go_ret
    exact ⟨ezz, bel⟩
   ·
    rw [if_neg c5] at H
    have c5b0 : ((t209.length : Int) == 2) = false := beq_eq_false_iff_ne.mpr c5
    have c5b1 : ((t209.length : Int) != 2) = true := bne_iff_ne.mpr c5
    obtain rfl := Option.some.inj H
    go_enter Tryd.func12, Tryd.ntmps12
    go_wp2_with (first | ((with_reducible refine gate_dst (N := 9) rfl ?_); (try (refine gate_guard (by rfl) ?_; dsimp only)); refine Kd.R_lit k69 _ 69 ?hg (N := 9) ?hd (xs := ([(⟨0, 1⟩ : S69), (⟨1, 2⟩ : S69), (⟨0, 2⟩ : S69)] : List (S69))) (inner := [.int .i64 0, .int .i64 1, .int .i64 1, .int .i64 2, .int .i64 0, .int .i64 2]) (ok := fun _ => True) (okp := fun _ => True) ?hr ?hp (fun _ hk => hk) trivial (Below.refl _ _) (Nat.le_refl _) (by simp) ?_; (case hd => rfl); (case hg => rfl); (case hr => first | (go_simp; done) | (go_simp; rfl)); (case hp => exact (Reps.c2 (show Kd.M k69 _ _ _ (⟨0, 1⟩ : S69) [.int .i64 0, .int .i64 1] from (k69_mkM _ _ _ (⟨0, 1⟩ : S69) )) (Reps.c2 (show Kd.M k69 _ _ _ (⟨1, 2⟩ : S69) [.int .i64 1, .int .i64 2] from (k69_mkM _ _ _ (⟨1, 2⟩ : S69) )) (Reps.c2 (show Kd.M k69 _ _ _ (⟨0, 2⟩ : S69) [.int .i64 0, .int .i64 2] from (k69_mkM _ _ _ (⟨0, 2⟩ : S69) )) (Reps.none _ _))))); intro v203 w23 ho24 hb hg_ hnew_; clear hg_ hnew_; (first | rw [← Ny202.out] at ho24 | (simp only [Int.reduceToNat] at ho24; rw [← Ny202.out] at ho24)); have HO204 := Aside0.mk (Kd.R_lower ho24 (below_size bel)); replace HB := Aside0.mk (below_step bel hb); clear hb ho24) | ((with_reducible refine gate_dst (N := 11) rfl ?_); (try (refine gate_guard (by rfl) ?_; dsimp only)); refine Kd.R_lit k71 _ 71 ?hg (N := 11) ?hd (xs := ([(⟨0, 1⟩ : S71)] : List (S71))) (inner := [.int .i64 0, .int .i64 1]) (ok := fun _ => True) (okp := fun _ => True) ?hr ?hp (fun _ hk => hk) trivial (Below.refl _ _) (Nat.le_refl _) (by simp) ?_; (case hd => rfl); (case hg => rfl); (case hr => first | (go_simp; done) | (go_simp; rfl)); (case hp => exact (Reps.c2 (show Kd.M k71 _ _ _ (⟨0, 1⟩ : S71) [.int .i64 0, .int .i64 1] from (k71_mkM _ _ _ (⟨0, 1⟩ : S71) )) (Reps.none _ _))); intro v206 w25 ho26 hb hg_ hnew_; clear hg_ hnew_; (first | rw [← Ny205.out] at ho26 | (simp only [Int.reduceToNat] at ho26; rw [← Ny205.out] at ho26)); have HO207 := Aside0.mk (Kd.R_lower ho26 (below_size bel)); replace HO204 := Aside0.mk (Kd.R_below (ownx HO204) hb); replace HB := Aside0.mk (below_step bel hb); clear hb ho26; obtain ⟨Ao27, co27, eo27⟩ := Kd.R_slice HO207.out; subst eo27; obtain ⟨Ao28, co28, eo28⟩ := Kd.R_slice HO204.out; subst eo28) | ((with_reducible refine gate_dst (N := 1) rfl ?_); (try (refine gate_guard (by rfl) ?_; dsimp only)); refine box_event ?hg (N := 1) ?hd (cs := #[.int .i64 0, .slice none 0 0, .slice none 0 0]) (t := 25) ?hr ?_; (case hd => rfl); (case hg => rfl); (case hr => first | (go_simp; done) | (go_simp; rfl)); intro gb208 hg w29 hbox hb; have BK208 := Aside0.mk (hbox); have GW208 := bsz (w := w) hg; have GE208 := GW208; replace HO204 := Aside0.mk (Kd.R_below (ownx HO204) hb); replace HO207 := Aside0.mk (Kd.R_below (ownx HO207) hb); replace HB := Aside0.mk (below_step bel hb); clear hb hbox hg; have hcz30_0 := blkc BK208.out 0 (.int .i64 0) rfl; have hcz30_1 := blkc BK208.out 1 (.slice none 0 0) rfl; have hcz30_2 := blkc BK208.out 2 (.slice none 0 0) rfl; have hfz30_0 := blk_frozen BK208.out 0; have hfz30_1 := blk_frozen BK208.out 1; have hfz30_2 := blk_frozen BK208.out 2) | ((with_reducible refine gate_callee (f := 24) rfl ?_); refine goesL_ (some 15) rfl rfl Tryd.func24 (by kernel_rfl) rfl #[.agg #[.int .i64 3, .slice Ao28 y202.length co28, .slice Ao27 y205.length co27], .int .i64 7, .int .i64 2] rfl mapz ?_; (with_reducible refine (feed_Isolate.calls k 3 _ _ y202 _ _ y205 7 2 t209 t212 _ ?side1 ?side2 ?side3 ?side4 ?sideT A1.out).mono ?_); (case sideT => first | exact HT.out | exact Tab.Tabs.below HT.out bel | (with_reducible repeat (first | exact HT.out | apply Tab.Tabs.alloc | apply Tab.Tabs.drewN | apply Tab.Tabs.drew))); (case side1 => refine (Kd.R_reads' (e := 69) (base := w.heap.size) (ok := fun k_ => True) (n := y202.length) (c := co28) ?_).2.2; exact (by (with_reducible repeat (first | apply Kd.R_alloc | apply Kd.R_drewN | apply Kd.R_drew)); exact (Kd.R_mono (Kd.R_far (p := ⟨gb208, 2, none⟩) (Kd.R_far (p := ⟨gb208, 1, none⟩) (Kd.R_far (p := ⟨gb208, 0, none⟩) (Kd.R_types HO204.out BK208.out (by decide)) (fun _ hk => hk.2) (.int .i64 3)) (fun _ hk => hk.2) (.slice Ao28 y202.length co28)) (fun _ hk => hk.2) (.slice Ao27 y205.length co27)) (fun _ h_ => h_.1)))); (case side2 => exact (Kd.R_reads' HO204.out).2.1); (case side3 => refine (Kd.R_reads' (e := 71) (base := w.heap.size) (ok := fun k_ => True) (n := y205.length) (c := co27) ?_).2.2; exact (by (with_reducible repeat (first | apply Kd.R_alloc | apply Kd.R_drewN | apply Kd.R_drew)); exact (Kd.R_mono (Kd.R_far (p := ⟨gb208, 2, none⟩) (Kd.R_far (p := ⟨gb208, 1, none⟩) (Kd.R_far (p := ⟨gb208, 0, none⟩) (Kd.R_types HO207.out BK208.out (by decide)) (fun _ hk => hk.2) (.int .i64 3)) (fun _ hk => hk.2) (.slice Ao28 y202.length co28)) (fun _ hk => hk.2) (.slice Ao27 y205.length co27)) (fun _ h_ => h_.1)))); (case side4 => exact (Kd.R_reads' HO207.out).2.1); rintro e w31 ⟨v210, rfl, ho0, hb⟩; refine ⟨_, rfl, ?_⟩; have HO211 := Aside0.mk (Kd.R_lower ho0 (below_size bel)); replace HO204 := Aside0.mk (Kd.R_below (by (with_reducible repeat (first | apply Kd.R_alloc | apply Kd.R_drewN | apply Kd.R_drew)); exact (Kd.R_mono (Kd.R_far (p := ⟨gb208, 2, none⟩) (Kd.R_far (p := ⟨gb208, 1, none⟩) (Kd.R_far (p := ⟨gb208, 0, none⟩) (Kd.R_types HO204.out BK208.out (by decide)) (fun _ hk => hk.2) (.int .i64 3)) (fun _ hk => hk.2) (.slice Ao28 y202.length co28)) (fun _ hk => hk.2) (.slice Ao27 y205.length co27)) (fun _ h_ => h_.1))) hb); replace HO207 := Aside0.mk (Kd.R_below (by (with_reducible repeat (first | apply Kd.R_alloc | apply Kd.R_drewN | apply Kd.R_drew)); exact (Kd.R_mono (Kd.R_far (p := ⟨gb208, 2, none⟩) (Kd.R_far (p := ⟨gb208, 1, none⟩) (Kd.R_far (p := ⟨gb208, 0, none⟩) (Kd.R_types HO207.out BK208.out (by decide)) (fun _ hk => hk.2) (.int .i64 3)) (fun _ hk => hk.2) (.slice Ao28 y202.length co28)) (fun _ hk => hk.2) (.slice Ao27 y205.length co27)) (fun _ h_ => h_.1))) hb); replace BK208 := Aside0.mk (blk_below (g := gb208) (o := .cells #[.int .i64 3, .slice Ao28 y202.length co28, .slice Ao27 y205.length co27] 25 (0, 0)) (by (with_reducible repeat (first | refine blk_drewN ?_ _ | refine blk_drew ?_ | refine blk_alloc ?_ _)); refine blk_put (cs := #[.int .i64 3, .slice Ao28 y202.length co28, .slice none 0 0]) ?_ 2 _ rfl; (with_reducible repeat (first | refine blk_drewN ?_ _ | refine blk_drew ?_ | refine blk_alloc ?_ _)); refine blk_put (cs := #[.int .i64 3, .slice none 0 0, .slice none 0 0]) ?_ 1 _ rfl; (with_reducible repeat (first | refine blk_drewN ?_ _ | refine blk_drew ?_ | refine blk_alloc ?_ _)); refine blk_put (cs := #[.int .i64 0, .slice none 0 0, .slice none 0 0]) ?_ 0 _ rfl; (with_reducible repeat (first | refine blk_drewN ?_ _ | refine blk_drew ?_ | refine blk_alloc ?_ _)); exact BK208.out) hb); replace HB := Aside0.mk (below_step bel hb); (try clear hb); (try clear hb2); (try clear hk); (try clear hi); (try clear ho0)) | ((with_reducible refine gate_dst (N := 20) rfl ?_); (try (refine gate_guard (by rfl) ?_; dsimp only)); refine Kd.R_lit k69 _ 69 ?hg (N := 20) ?hd (xs := ([(⟨0, 1⟩ : S69)] : List (S69))) (inner := [.int .i64 0, .int .i64 1]) (ok := fun _ => True) (okp := fun _ => True) ?hr ?hp (fun _ hk => hk) trivial (Below.refl _ _) (Nat.le_refl _) (by simp) ?_; (case hd => rfl); (case hg => rfl); (case hr => first | (go_simp; done) | (go_simp; rfl)); (case hp => exact (Reps.c2 (show Kd.M k69 _ _ _ (⟨0, 1⟩ : S69) [.int .i64 0, .int .i64 1] from (k69_mkM _ _ _ (⟨0, 1⟩ : S69) )) (Reps.none _ _))); intro v214 w32 ho33 hb hg_ hnew_; clear hg_ hnew_; (first | rw [← Ny213.out] at ho33 | (simp only [Int.reduceToNat] at ho33; rw [← Ny213.out] at ho33)); have HO215 := Aside0.mk (Kd.R_lower (Kd.R_new' ho33 (Kd.R_lt (ownx HO204))) (below_size bel)); replace HO204 := Aside0.mk (Kd.R_elder' (ownx HO204) (Kd.R_base ho33) hb); replace HO207 := Aside0.mk (Kd.R_below (ownx HO207) hb); replace HO211 := Aside0.mk (Kd.R_below (ownx HO211) hb); replace BK208 := Aside0.mk (blk_below (g := gb208) blkz hb); replace HB := Aside0.mk (below_step bel hb); clear hb ho33) | ((with_reducible refine gate_dst (N := 23) rfl ?_); (try (refine gate_guard (by rfl) ?_; dsimp only)); refine Kd.R_lit k71 _ 71 ?hg (N := 23) ?hd (xs := ([(⟨0, 1⟩ : S71), (⟨1, 2⟩ : S71)] : List (S71))) (inner := [.int .i64 0, .int .i64 1, .int .i64 1, .int .i64 2]) (ok := fun _ => True) (okp := fun _ => True) ?hr ?hp (fun _ hk => hk) trivial (Below.refl _ _) (Nat.le_refl _) (by simp) ?_; (case hd => rfl); (case hg => rfl); (case hr => first | (go_simp; done) | (go_simp; rfl)); (case hp => exact (Reps.c2 (show Kd.M k71 _ _ _ (⟨0, 1⟩ : S71) [.int .i64 0, .int .i64 1] from (k71_mkM _ _ _ (⟨0, 1⟩ : S71) )) (Reps.c2 (show Kd.M k71 _ _ _ (⟨1, 2⟩ : S71) [.int .i64 1, .int .i64 2] from (k71_mkM _ _ _ (⟨1, 2⟩ : S71) )) (Reps.none _ _)))); intro v217 w34 ho35 hb hg_ hnew_; clear hg_ hnew_; (first | rw [← Ny216.out] at ho35 | (simp only [Int.reduceToNat] at ho35; rw [← Ny216.out] at ho35)); have HO218 := Aside0.mk (Kd.R_lower (Kd.R_new' ho35 (Kd.R_lt (ownx HO207))) (below_size bel)); replace HO204 := Aside0.mk (Kd.R_below (ownx HO204) hb); replace HO207 := Aside0.mk (Kd.R_elder' (ownx HO207) (Kd.R_base ho35) hb); replace HO211 := Aside0.mk (Kd.R_below (ownx HO211) hb); replace HO215 := Aside0.mk (Kd.R_below (ownx HO215) hb); replace BK208 := Aside0.mk (blk_below (g := gb208) blkz hb); replace HB := Aside0.mk (below_step bel hb); clear hb ho35; obtain ⟨Ao36, co36, eo36⟩ := Kd.R_slice HO218.out; subst eo36; obtain ⟨Ao37, co37, eo37⟩ := Kd.R_slice HO215.out; subst eo37) | ((with_reducible refine gate_callee (f := 17) rfl ?_); refine goesL_ (some 25) rfl rfl Tryd.func17 (by kernel_rfl) rfl #[.agg #[.int .i64 2, .slice Ao37 y213.length co37, .slice Ao36 y216.length co36]] rfl mapz ?_; (with_reducible refine (feed_States.calls k 2 _ _ y213 _ _ y216 t219 t220 _ ?side1 ?side2 ?side3 ?side4 ?sideT A2.out).mono ?_); (case sideT => first | exact HT.out | exact Tab.Tabs.below HT.out bel | (with_reducible repeat (first | exact HT.out | apply Tab.Tabs.alloc | apply Tab.Tabs.drewN | apply Tab.Tabs.drew))); (case side1 => repeat (first | exact (Kd.R_reads' HO215.out).2.2 | (with_reducible refine Kd.C_alloc ?_ _) | (with_reducible refine Kd.C_drewN ?_ _) | (with_reducible refine Kd.C_drew ?_))); (case side2 => exact (Kd.R_reads' HO215.out).2.1); (case side3 => repeat (first | exact (Kd.R_reads' HO218.out).2.2 | (with_reducible refine Kd.C_alloc ?_ _) | (with_reducible refine Kd.C_drewN ?_ _) | (with_reducible refine Kd.C_drew ?_))); (case side4 => exact (Kd.R_reads' HO218.out).2.1); rintro e w38 ⟨rfl, hb⟩; refine ⟨_, rfl, ?_⟩; replace HO204 := Aside0.mk (Kd.R_below (ownx HO204) hb); replace HO207 := Aside0.mk (Kd.R_below (ownx HO207) hb); replace HO211 := Aside0.mk (Kd.R_below (ownx HO211) hb); replace HO215 := Aside0.mk (Kd.R_below (ownx HO215) hb); replace HO218 := Aside0.mk (Kd.R_below (ownx HO218) hb); replace BK208 := Aside0.mk (blk_below (g := gb208) blkz hb); replace HB := Aside0.mk (below_step bel hb); (try clear hb); (try clear hb2); (try clear hk); (try clear hi); obtain ⟨Ao39, co39, eo39⟩ := Kd.R_slice HO211.out; subst eo39))
    go_ret
    exact ⟨ezz, bel⟩
  ·
   rw [if_neg c4] at H
   have c4b0 : (t220 == 0) = false := beq_eq_false_iff_ne.mpr c4
   have c4b1 : (t220 != 0) = true := bne_iff_ne.mpr c4
   obtain rfl := Option.some.inj H
   go_enter Tryd.func12, Tryd.ntmps12
   go_wp2_with (first | ((with_reducible refine gate_dst (N := 9) rfl ?_); (try (refine gate_guard (by rfl) ?_; dsimp only)); refine Kd.R_lit k69 _ 69 ?hg (N := 9) ?hd (xs := ([(⟨0, 1⟩ : S69), (⟨1, 2⟩ : S69), (⟨0, 2⟩ : S69)] : List (S69))) (inner := [.int .i64 0, .int .i64 1, .int .i64 1, .int .i64 2, .int .i64 0, .int .i64 2]) (ok := fun _ => True) (okp := fun _ => True) ?hr ?hp (fun _ hk => hk) trivial (Below.refl _ _) (Nat.le_refl _) (by simp) ?_; (case hd => rfl); (case hg => rfl); (case hr => first | (go_simp; done) | (go_simp; rfl)); (case hp => exact (Reps.c2 (show Kd.M k69 _ _ _ (⟨0, 1⟩ : S69) [.int .i64 0, .int .i64 1] from (k69_mkM _ _ _ (⟨0, 1⟩ : S69) )) (Reps.c2 (show Kd.M k69 _ _ _ (⟨1, 2⟩ : S69) [.int .i64 1, .int .i64 2] from (k69_mkM _ _ _ (⟨1, 2⟩ : S69) )) (Reps.c2 (show Kd.M k69 _ _ _ (⟨0, 2⟩ : S69) [.int .i64 0, .int .i64 2] from (k69_mkM _ _ _ (⟨0, 2⟩ : S69) )) (Reps.none _ _))))); intro v203 w40 ho41 hb hg_ hnew_; clear hg_ hnew_; (first | rw [← Ny202.out] at ho41 | (simp only [Int.reduceToNat] at ho41; rw [← Ny202.out] at ho41)); have HO204 := Aside0.mk (Kd.R_lower ho41 (below_size bel)); replace HB := Aside0.mk (below_step bel hb); clear hb ho41) | ((with_reducible refine gate_dst (N := 11) rfl ?_); (try (refine gate_guard (by rfl) ?_; dsimp only)); refine Kd.R_lit k71 _ 71 ?hg (N := 11) ?hd (xs := ([(⟨0, 1⟩ : S71)] : List (S71))) (inner := [.int .i64 0, .int .i64 1]) (ok := fun _ => True) (okp := fun _ => True) ?hr ?hp (fun _ hk => hk) trivial (Below.refl _ _) (Nat.le_refl _) (by simp) ?_; (case hd => rfl); (case hg => rfl); (case hr => first | (go_simp; done) | (go_simp; rfl)); (case hp => exact (Reps.c2 (show Kd.M k71 _ _ _ (⟨0, 1⟩ : S71) [.int .i64 0, .int .i64 1] from (k71_mkM _ _ _ (⟨0, 1⟩ : S71) )) (Reps.none _ _))); intro v206 w42 ho43 hb hg_ hnew_; clear hg_ hnew_; (first | rw [← Ny205.out] at ho43 | (simp only [Int.reduceToNat] at ho43; rw [← Ny205.out] at ho43)); have HO207 := Aside0.mk (Kd.R_lower ho43 (below_size bel)); replace HO204 := Aside0.mk (Kd.R_below (ownx HO204) hb); replace HB := Aside0.mk (below_step bel hb); clear hb ho43; obtain ⟨Ao44, co44, eo44⟩ := Kd.R_slice HO207.out; subst eo44; obtain ⟨Ao45, co45, eo45⟩ := Kd.R_slice HO204.out; subst eo45) | ((with_reducible refine gate_dst (N := 1) rfl ?_); (try (refine gate_guard (by rfl) ?_; dsimp only)); refine box_event ?hg (N := 1) ?hd (cs := #[.int .i64 0, .slice none 0 0, .slice none 0 0]) (t := 25) ?hr ?_; (case hd => rfl); (case hg => rfl); (case hr => first | (go_simp; done) | (go_simp; rfl)); intro gb208 hg w46 hbox hb; have BK208 := Aside0.mk (hbox); have GW208 := bsz (w := w) hg; have GE208 := GW208; replace HO204 := Aside0.mk (Kd.R_below (ownx HO204) hb); replace HO207 := Aside0.mk (Kd.R_below (ownx HO207) hb); replace HB := Aside0.mk (below_step bel hb); clear hb hbox hg; have hcz47_0 := blkc BK208.out 0 (.int .i64 0) rfl; have hcz47_1 := blkc BK208.out 1 (.slice none 0 0) rfl; have hcz47_2 := blkc BK208.out 2 (.slice none 0 0) rfl; have hfz47_0 := blk_frozen BK208.out 0; have hfz47_1 := blk_frozen BK208.out 1; have hfz47_2 := blk_frozen BK208.out 2) | ((with_reducible refine gate_callee (f := 24) rfl ?_); refine goesL_ (some 15) rfl rfl Tryd.func24 (by kernel_rfl) rfl #[.agg #[.int .i64 3, .slice Ao45 y202.length co45, .slice Ao44 y205.length co44], .int .i64 7, .int .i64 2] rfl mapz ?_; (with_reducible refine (feed_Isolate.calls k 3 _ _ y202 _ _ y205 7 2 t209 t212 _ ?side1 ?side2 ?side3 ?side4 ?sideT A1.out).mono ?_); (case sideT => first | exact HT.out | exact Tab.Tabs.below HT.out bel | (with_reducible repeat (first | exact HT.out | apply Tab.Tabs.alloc | apply Tab.Tabs.drewN | apply Tab.Tabs.drew))); (case side1 => refine (Kd.R_reads' (e := 69) (base := w.heap.size) (ok := fun k_ => True) (n := y202.length) (c := co45) ?_).2.2; exact (by (with_reducible repeat (first | apply Kd.R_alloc | apply Kd.R_drewN | apply Kd.R_drew)); exact (Kd.R_mono (Kd.R_far (p := ⟨gb208, 2, none⟩) (Kd.R_far (p := ⟨gb208, 1, none⟩) (Kd.R_far (p := ⟨gb208, 0, none⟩) (Kd.R_types HO204.out BK208.out (by decide)) (fun _ hk => hk.2) (.int .i64 3)) (fun _ hk => hk.2) (.slice Ao45 y202.length co45)) (fun _ hk => hk.2) (.slice Ao44 y205.length co44)) (fun _ h_ => h_.1)))); (case side2 => exact (Kd.R_reads' HO204.out).2.1); (case side3 => refine (Kd.R_reads' (e := 71) (base := w.heap.size) (ok := fun k_ => True) (n := y205.length) (c := co44) ?_).2.2; exact (by (with_reducible repeat (first | apply Kd.R_alloc | apply Kd.R_drewN | apply Kd.R_drew)); exact (Kd.R_mono (Kd.R_far (p := ⟨gb208, 2, none⟩) (Kd.R_far (p := ⟨gb208, 1, none⟩) (Kd.R_far (p := ⟨gb208, 0, none⟩) (Kd.R_types HO207.out BK208.out (by decide)) (fun _ hk => hk.2) (.int .i64 3)) (fun _ hk => hk.2) (.slice Ao45 y202.length co45)) (fun _ hk => hk.2) (.slice Ao44 y205.length co44)) (fun _ h_ => h_.1)))); (case side4 => exact (Kd.R_reads' HO207.out).2.1); rintro e w48 ⟨v210, rfl, ho0, hb⟩; refine ⟨_, rfl, ?_⟩; have HO211 := Aside0.mk (Kd.R_lower ho0 (below_size bel)); replace HO204 := Aside0.mk (Kd.R_below (by (with_reducible repeat (first | apply Kd.R_alloc | apply Kd.R_drewN | apply Kd.R_drew)); exact (Kd.R_mono (Kd.R_far (p := ⟨gb208, 2, none⟩) (Kd.R_far (p := ⟨gb208, 1, none⟩) (Kd.R_far (p := ⟨gb208, 0, none⟩) (Kd.R_types HO204.out BK208.out (by decide)) (fun _ hk => hk.2) (.int .i64 3)) (fun _ hk => hk.2) (.slice Ao45 y202.length co45)) (fun _ hk => hk.2) (.slice Ao44 y205.length co44)) (fun _ h_ => h_.1))) hb); replace HO207 := Aside0.mk (Kd.R_below (by (with_reducible repeat (first | apply Kd.R_alloc | apply Kd.R_drewN | apply Kd.R_drew)); exact (Kd.R_mono (Kd.R_far (p := ⟨gb208, 2, none⟩) (Kd.R_far (p := ⟨gb208, 1, none⟩) (Kd.R_far (p := ⟨gb208, 0, none⟩) (Kd.R_types HO207.out BK208.out (by decide)) (fun _ hk => hk.2) (.int .i64 3)) (fun _ hk => hk.2) (.slice Ao45 y202.length co45)) (fun _ hk => hk.2) (.slice Ao44 y205.length co44)) (fun _ h_ => h_.1))) hb); replace BK208 := Aside0.mk (blk_below (g := gb208) (o := .cells #[.int .i64 3, .slice Ao45 y202.length co45, .slice Ao44 y205.length co44] 25 (0, 0)) (by (with_reducible repeat (first | refine blk_drewN ?_ _ | refine blk_drew ?_ | refine blk_alloc ?_ _)); refine blk_put (cs := #[.int .i64 3, .slice Ao45 y202.length co45, .slice none 0 0]) ?_ 2 _ rfl; (with_reducible repeat (first | refine blk_drewN ?_ _ | refine blk_drew ?_ | refine blk_alloc ?_ _)); refine blk_put (cs := #[.int .i64 3, .slice none 0 0, .slice none 0 0]) ?_ 1 _ rfl; (with_reducible repeat (first | refine blk_drewN ?_ _ | refine blk_drew ?_ | refine blk_alloc ?_ _)); refine blk_put (cs := #[.int .i64 0, .slice none 0 0, .slice none 0 0]) ?_ 0 _ rfl; (with_reducible repeat (first | refine blk_drewN ?_ _ | refine blk_drew ?_ | refine blk_alloc ?_ _)); exact BK208.out) hb); replace HB := Aside0.mk (below_step bel hb); (try clear hb); (try clear hb2); (try clear hk); (try clear hi); (try clear ho0)) | ((with_reducible refine gate_dst (N := 20) rfl ?_); (try (refine gate_guard (by rfl) ?_; dsimp only)); refine Kd.R_lit k69 _ 69 ?hg (N := 20) ?hd (xs := ([(⟨0, 1⟩ : S69)] : List (S69))) (inner := [.int .i64 0, .int .i64 1]) (ok := fun _ => True) (okp := fun _ => True) ?hr ?hp (fun _ hk => hk) trivial (Below.refl _ _) (Nat.le_refl _) (by simp) ?_; (case hd => rfl); (case hg => rfl); (case hr => first | (go_simp; done) | (go_simp; rfl)); (case hp => exact (Reps.c2 (show Kd.M k69 _ _ _ (⟨0, 1⟩ : S69) [.int .i64 0, .int .i64 1] from (k69_mkM _ _ _ (⟨0, 1⟩ : S69) )) (Reps.none _ _))); intro v214 w49 ho50 hb hg_ hnew_; clear hg_ hnew_; (first | rw [← Ny213.out] at ho50 | (simp only [Int.reduceToNat] at ho50; rw [← Ny213.out] at ho50)); have HO215 := Aside0.mk (Kd.R_lower (Kd.R_new' ho50 (Kd.R_lt (ownx HO204))) (below_size bel)); replace HO204 := Aside0.mk (Kd.R_elder' (ownx HO204) (Kd.R_base ho50) hb); replace HO207 := Aside0.mk (Kd.R_below (ownx HO207) hb); replace HO211 := Aside0.mk (Kd.R_below (ownx HO211) hb); replace BK208 := Aside0.mk (blk_below (g := gb208) blkz hb); replace HB := Aside0.mk (below_step bel hb); clear hb ho50) | ((with_reducible refine gate_dst (N := 23) rfl ?_); (try (refine gate_guard (by rfl) ?_; dsimp only)); refine Kd.R_lit k71 _ 71 ?hg (N := 23) ?hd (xs := ([(⟨0, 1⟩ : S71), (⟨1, 2⟩ : S71)] : List (S71))) (inner := [.int .i64 0, .int .i64 1, .int .i64 1, .int .i64 2]) (ok := fun _ => True) (okp := fun _ => True) ?hr ?hp (fun _ hk => hk) trivial (Below.refl _ _) (Nat.le_refl _) (by simp) ?_; (case hd => rfl); (case hg => rfl); (case hr => first | (go_simp; done) | (go_simp; rfl)); (case hp => exact (Reps.c2 (show Kd.M k71 _ _ _ (⟨0, 1⟩ : S71) [.int .i64 0, .int .i64 1] from (k71_mkM _ _ _ (⟨0, 1⟩ : S71) )) (Reps.c2 (show Kd.M k71 _ _ _ (⟨1, 2⟩ : S71) [.int .i64 1, .int .i64 2] from (k71_mkM _ _ _ (⟨1, 2⟩ : S71) )) (Reps.none _ _)))); intro v217 w51 ho52 hb hg_ hnew_; clear hg_ hnew_; (first | rw [← Ny216.out] at ho52 | (simp only [Int.reduceToNat] at ho52; rw [← Ny216.out] at ho52)); have HO218 := Aside0.mk (Kd.R_lower (Kd.R_new' ho52 (Kd.R_lt (ownx HO207))) (below_size bel)); replace HO204 := Aside0.mk (Kd.R_below (ownx HO204) hb); replace HO207 := Aside0.mk (Kd.R_elder' (ownx HO207) (Kd.R_base ho52) hb); replace HO211 := Aside0.mk (Kd.R_below (ownx HO211) hb); replace HO215 := Aside0.mk (Kd.R_below (ownx HO215) hb); replace BK208 := Aside0.mk (blk_below (g := gb208) blkz hb); replace HB := Aside0.mk (below_step bel hb); clear hb ho52; obtain ⟨Ao53, co53, eo53⟩ := Kd.R_slice HO218.out; subst eo53; obtain ⟨Ao54, co54, eo54⟩ := Kd.R_slice HO215.out; subst eo54) | ((with_reducible refine gate_callee (f := 17) rfl ?_); refine goesL_ (some 25) rfl rfl Tryd.func17 (by kernel_rfl) rfl #[.agg #[.int .i64 2, .slice Ao54 y213.length co54, .slice Ao53 y216.length co53]] rfl mapz ?_; (with_reducible refine (feed_States.calls k 2 _ _ y213 _ _ y216 t219 t220 _ ?side1 ?side2 ?side3 ?side4 ?sideT A2.out).mono ?_); (case sideT => first | exact HT.out | exact Tab.Tabs.below HT.out bel | (with_reducible repeat (first | exact HT.out | apply Tab.Tabs.alloc | apply Tab.Tabs.drewN | apply Tab.Tabs.drew))); (case side1 => repeat (first | exact (Kd.R_reads' HO215.out).2.2 | (with_reducible refine Kd.C_alloc ?_ _) | (with_reducible refine Kd.C_drewN ?_ _) | (with_reducible refine Kd.C_drew ?_))); (case side2 => exact (Kd.R_reads' HO215.out).2.1); (case side3 => repeat (first | exact (Kd.R_reads' HO218.out).2.2 | (with_reducible refine Kd.C_alloc ?_ _) | (with_reducible refine Kd.C_drewN ?_ _) | (with_reducible refine Kd.C_drew ?_))); (case side4 => exact (Kd.R_reads' HO218.out).2.1); rintro e w55 ⟨rfl, hb⟩; refine ⟨_, rfl, ?_⟩; replace HO204 := Aside0.mk (Kd.R_below (ownx HO204) hb); replace HO207 := Aside0.mk (Kd.R_below (ownx HO207) hb); replace HO211 := Aside0.mk (Kd.R_below (ownx HO211) hb); replace HO215 := Aside0.mk (Kd.R_below (ownx HO215) hb); replace HO218 := Aside0.mk (Kd.R_below (ownx HO218) hb); replace BK208 := Aside0.mk (blk_below (g := gb208) blkz hb); replace HB := Aside0.mk (below_step bel hb); (try clear hb); (try clear hb2); (try clear hk); (try clear hi)))
   go_ret
   exact ⟨ezz, bel⟩
 ·
  rw [if_neg c3] at H
  have c3b0 : (t212 == 0) = false := beq_eq_false_iff_ne.mpr c3
  have c3b1 : (t212 != 0) = true := bne_iff_ne.mpr c3
  obtain rfl := Option.some.inj H
  go_enter Tryd.func12, Tryd.ntmps12
  go_wp2_with (first | ((with_reducible refine gate_dst (N := 9) rfl ?_); (try (refine gate_guard (by rfl) ?_; dsimp only)); refine Kd.R_lit k69 _ 69 ?hg (N := 9) ?hd (xs := ([(⟨0, 1⟩ : S69), (⟨1, 2⟩ : S69), (⟨0, 2⟩ : S69)] : List (S69))) (inner := [.int .i64 0, .int .i64 1, .int .i64 1, .int .i64 2, .int .i64 0, .int .i64 2]) (ok := fun _ => True) (okp := fun _ => True) ?hr ?hp (fun _ hk => hk) trivial (Below.refl _ _) (Nat.le_refl _) (by simp) ?_; (case hd => rfl); (case hg => rfl); (case hr => first | (go_simp; done) | (go_simp; rfl)); (case hp => exact (Reps.c2 (show Kd.M k69 _ _ _ (⟨0, 1⟩ : S69) [.int .i64 0, .int .i64 1] from (k69_mkM _ _ _ (⟨0, 1⟩ : S69) )) (Reps.c2 (show Kd.M k69 _ _ _ (⟨1, 2⟩ : S69) [.int .i64 1, .int .i64 2] from (k69_mkM _ _ _ (⟨1, 2⟩ : S69) )) (Reps.c2 (show Kd.M k69 _ _ _ (⟨0, 2⟩ : S69) [.int .i64 0, .int .i64 2] from (k69_mkM _ _ _ (⟨0, 2⟩ : S69) )) (Reps.none _ _))))); intro v203 w56 ho57 hb hg_ hnew_; clear hg_ hnew_; (first | rw [← Ny202.out] at ho57 | (simp only [Int.reduceToNat] at ho57; rw [← Ny202.out] at ho57)); have HO204 := Aside0.mk (Kd.R_lower ho57 (below_size bel)); replace HB := Aside0.mk (below_step bel hb); clear hb ho57) | ((with_reducible refine gate_dst (N := 11) rfl ?_); (try (refine gate_guard (by rfl) ?_; dsimp only)); refine Kd.R_lit k71 _ 71 ?hg (N := 11) ?hd (xs := ([(⟨0, 1⟩ : S71)] : List (S71))) (inner := [.int .i64 0, .int .i64 1]) (ok := fun _ => True) (okp := fun _ => True) ?hr ?hp (fun _ hk => hk) trivial (Below.refl _ _) (Nat.le_refl _) (by simp) ?_; (case hd => rfl); (case hg => rfl); (case hr => first | (go_simp; done) | (go_simp; rfl)); (case hp => exact (Reps.c2 (show Kd.M k71 _ _ _ (⟨0, 1⟩ : S71) [.int .i64 0, .int .i64 1] from (k71_mkM _ _ _ (⟨0, 1⟩ : S71) )) (Reps.none _ _))); intro v206 w58 ho59 hb hg_ hnew_; clear hg_ hnew_; (first | rw [← Ny205.out] at ho59 | (simp only [Int.reduceToNat] at ho59; rw [← Ny205.out] at ho59)); have HO207 := Aside0.mk (Kd.R_lower ho59 (below_size bel)); replace HO204 := Aside0.mk (Kd.R_below (ownx HO204) hb); replace HB := Aside0.mk (below_step bel hb); clear hb ho59; obtain ⟨Ao60, co60, eo60⟩ := Kd.R_slice HO207.out; subst eo60; obtain ⟨Ao61, co61, eo61⟩ := Kd.R_slice HO204.out; subst eo61) | ((with_reducible refine gate_dst (N := 1) rfl ?_); (try (refine gate_guard (by rfl) ?_; dsimp only)); refine box_event ?hg (N := 1) ?hd (cs := #[.int .i64 0, .slice none 0 0, .slice none 0 0]) (t := 25) ?hr ?_; (case hd => rfl); (case hg => rfl); (case hr => first | (go_simp; done) | (go_simp; rfl)); intro gb208 hg w62 hbox hb; have BK208 := Aside0.mk (hbox); have GW208 := bsz (w := w) hg; have GE208 := GW208; replace HO204 := Aside0.mk (Kd.R_below (ownx HO204) hb); replace HO207 := Aside0.mk (Kd.R_below (ownx HO207) hb); replace HB := Aside0.mk (below_step bel hb); clear hb hbox hg; have hcz63_0 := blkc BK208.out 0 (.int .i64 0) rfl; have hcz63_1 := blkc BK208.out 1 (.slice none 0 0) rfl; have hcz63_2 := blkc BK208.out 2 (.slice none 0 0) rfl; have hfz63_0 := blk_frozen BK208.out 0; have hfz63_1 := blk_frozen BK208.out 1; have hfz63_2 := blk_frozen BK208.out 2) | ((with_reducible refine gate_callee (f := 24) rfl ?_); refine goesL_ (some 15) rfl rfl Tryd.func24 (by kernel_rfl) rfl #[.agg #[.int .i64 3, .slice Ao61 y202.length co61, .slice Ao60 y205.length co60], .int .i64 7, .int .i64 2] rfl mapz ?_; (with_reducible refine (feed_Isolate.calls k 3 _ _ y202 _ _ y205 7 2 t209 t212 _ ?side1 ?side2 ?side3 ?side4 ?sideT A1.out).mono ?_); (case sideT => first | exact HT.out | exact Tab.Tabs.below HT.out bel | (with_reducible repeat (first | exact HT.out | apply Tab.Tabs.alloc | apply Tab.Tabs.drewN | apply Tab.Tabs.drew))); (case side1 => refine (Kd.R_reads' (e := 69) (base := w.heap.size) (ok := fun k_ => True) (n := y202.length) (c := co61) ?_).2.2; exact (by (with_reducible repeat (first | apply Kd.R_alloc | apply Kd.R_drewN | apply Kd.R_drew)); exact (Kd.R_mono (Kd.R_far (p := ⟨gb208, 2, none⟩) (Kd.R_far (p := ⟨gb208, 1, none⟩) (Kd.R_far (p := ⟨gb208, 0, none⟩) (Kd.R_types HO204.out BK208.out (by decide)) (fun _ hk => hk.2) (.int .i64 3)) (fun _ hk => hk.2) (.slice Ao61 y202.length co61)) (fun _ hk => hk.2) (.slice Ao60 y205.length co60)) (fun _ h_ => h_.1)))); (case side2 => exact (Kd.R_reads' HO204.out).2.1); (case side3 => refine (Kd.R_reads' (e := 71) (base := w.heap.size) (ok := fun k_ => True) (n := y205.length) (c := co60) ?_).2.2; exact (by (with_reducible repeat (first | apply Kd.R_alloc | apply Kd.R_drewN | apply Kd.R_drew)); exact (Kd.R_mono (Kd.R_far (p := ⟨gb208, 2, none⟩) (Kd.R_far (p := ⟨gb208, 1, none⟩) (Kd.R_far (p := ⟨gb208, 0, none⟩) (Kd.R_types HO207.out BK208.out (by decide)) (fun _ hk => hk.2) (.int .i64 3)) (fun _ hk => hk.2) (.slice Ao61 y202.length co61)) (fun _ hk => hk.2) (.slice Ao60 y205.length co60)) (fun _ h_ => h_.1)))); (case side4 => exact (Kd.R_reads' HO207.out).2.1); rintro e w64 ⟨v210, rfl, ho0, hb⟩; refine ⟨_, rfl, ?_⟩; have HO211 := Aside0.mk (Kd.R_lower ho0 (below_size bel)); replace HO204 := Aside0.mk (Kd.R_below (by (with_reducible repeat (first | apply Kd.R_alloc | apply Kd.R_drewN | apply Kd.R_drew)); exact (Kd.R_mono (Kd.R_far (p := ⟨gb208, 2, none⟩) (Kd.R_far (p := ⟨gb208, 1, none⟩) (Kd.R_far (p := ⟨gb208, 0, none⟩) (Kd.R_types HO204.out BK208.out (by decide)) (fun _ hk => hk.2) (.int .i64 3)) (fun _ hk => hk.2) (.slice Ao61 y202.length co61)) (fun _ hk => hk.2) (.slice Ao60 y205.length co60)) (fun _ h_ => h_.1))) hb); replace HO207 := Aside0.mk (Kd.R_below (by (with_reducible repeat (first | apply Kd.R_alloc | apply Kd.R_drewN | apply Kd.R_drew)); exact (Kd.R_mono (Kd.R_far (p := ⟨gb208, 2, none⟩) (Kd.R_far (p := ⟨gb208, 1, none⟩) (Kd.R_far (p := ⟨gb208, 0, none⟩) (Kd.R_types HO207.out BK208.out (by decide)) (fun _ hk => hk.2) (.int .i64 3)) (fun _ hk => hk.2) (.slice Ao61 y202.length co61)) (fun _ hk => hk.2) (.slice Ao60 y205.length co60)) (fun _ h_ => h_.1))) hb); replace BK208 := Aside0.mk (blk_below (g := gb208) (o := .cells #[.int .i64 3, .slice Ao61 y202.length co61, .slice Ao60 y205.length co60] 25 (0, 0)) (by (with_reducible repeat (first | refine blk_drewN ?_ _ | refine blk_drew ?_ | refine blk_alloc ?_ _)); refine blk_put (cs := #[.int .i64 3, .slice Ao61 y202.length co61, .slice none 0 0]) ?_ 2 _ rfl; (with_reducible repeat (first | refine blk_drewN ?_ _ | refine blk_drew ?_ | refine blk_alloc ?_ _)); refine blk_put (cs := #[.int .i64 3, .slice none 0 0, .slice none 0 0]) ?_ 1 _ rfl; (with_reducible repeat (first | refine blk_drewN ?_ _ | refine blk_drew ?_ | refine blk_alloc ?_ _)); refine blk_put (cs := #[.int .i64 0, .slice none 0 0, .slice none 0 0]) ?_ 0 _ rfl; (with_reducible repeat (first | refine blk_drewN ?_ _ | refine blk_drew ?_ | refine blk_alloc ?_ _)); exact BK208.out) hb); replace HB := Aside0.mk (below_step bel hb); (try clear hb); (try clear hb2); (try clear hk); (try clear hi); (try clear ho0)) | ((with_reducible refine gate_dst (N := 20) rfl ?_); (try (refine gate_guard (by rfl) ?_; dsimp only)); refine Kd.R_lit k69 _ 69 ?hg (N := 20) ?hd (xs := ([(⟨0, 1⟩ : S69)] : List (S69))) (inner := [.int .i64 0, .int .i64 1]) (ok := fun _ => True) (okp := fun _ => True) ?hr ?hp (fun _ hk => hk) trivial (Below.refl _ _) (Nat.le_refl _) (by simp) ?_; (case hd => rfl); (case hg => rfl); (case hr => first | (go_simp; done) | (go_simp; rfl)); (case hp => exact (Reps.c2 (show Kd.M k69 _ _ _ (⟨0, 1⟩ : S69) [.int .i64 0, .int .i64 1] from (k69_mkM _ _ _ (⟨0, 1⟩ : S69) )) (Reps.none _ _))); intro v214 w65 ho66 hb hg_ hnew_; clear hg_ hnew_; (first | rw [← Ny213.out] at ho66 | (simp only [Int.reduceToNat] at ho66; rw [← Ny213.out] at ho66)); have HO215 := Aside0.mk (Kd.R_lower (Kd.R_new' ho66 (Kd.R_lt (ownx HO204))) (below_size bel)); replace HO204 := Aside0.mk (Kd.R_elder' (ownx HO204) (Kd.R_base ho66) hb); replace HO207 := Aside0.mk (Kd.R_below (ownx HO207) hb); replace HO211 := Aside0.mk (Kd.R_below (ownx HO211) hb); replace BK208 := Aside0.mk (blk_below (g := gb208) blkz hb); replace HB := Aside0.mk (below_step bel hb); clear hb ho66) | ((with_reducible refine gate_dst (N := 23) rfl ?_); (try (refine gate_guard (by rfl) ?_; dsimp only)); refine Kd.R_lit k71 _ 71 ?hg (N := 23) ?hd (xs := ([(⟨0, 1⟩ : S71), (⟨1, 2⟩ : S71)] : List (S71))) (inner := [.int .i64 0, .int .i64 1, .int .i64 1, .int .i64 2]) (ok := fun _ => True) (okp := fun _ => True) ?hr ?hp (fun _ hk => hk) trivial (Below.refl _ _) (Nat.le_refl _) (by simp) ?_; (case hd => rfl); (case hg => rfl); (case hr => first | (go_simp; done) | (go_simp; rfl)); (case hp => exact (Reps.c2 (show Kd.M k71 _ _ _ (⟨0, 1⟩ : S71) [.int .i64 0, .int .i64 1] from (k71_mkM _ _ _ (⟨0, 1⟩ : S71) )) (Reps.c2 (show Kd.M k71 _ _ _ (⟨1, 2⟩ : S71) [.int .i64 1, .int .i64 2] from (k71_mkM _ _ _ (⟨1, 2⟩ : S71) )) (Reps.none _ _)))); intro v217 w67 ho68 hb hg_ hnew_; clear hg_ hnew_; (first | rw [← Ny216.out] at ho68 | (simp only [Int.reduceToNat] at ho68; rw [← Ny216.out] at ho68)); have HO218 := Aside0.mk (Kd.R_lower (Kd.R_new' ho68 (Kd.R_lt (ownx HO207))) (below_size bel)); replace HO204 := Aside0.mk (Kd.R_below (ownx HO204) hb); replace HO207 := Aside0.mk (Kd.R_elder' (ownx HO207) (Kd.R_base ho68) hb); replace HO211 := Aside0.mk (Kd.R_below (ownx HO211) hb); replace HO215 := Aside0.mk (Kd.R_below (ownx HO215) hb); replace BK208 := Aside0.mk (blk_below (g := gb208) blkz hb); replace HB := Aside0.mk (below_step bel hb); clear hb ho68; obtain ⟨Ao69, co69, eo69⟩ := Kd.R_slice HO218.out; subst eo69; obtain ⟨Ao70, co70, eo70⟩ := Kd.R_slice HO215.out; subst eo70) | ((with_reducible refine gate_callee (f := 17) rfl ?_); refine goesL_ (some 25) rfl rfl Tryd.func17 (by kernel_rfl) rfl #[.agg #[.int .i64 2, .slice Ao70 y213.length co70, .slice Ao69 y216.length co69]] rfl mapz ?_; (with_reducible refine (feed_States.calls k 2 _ _ y213 _ _ y216 t219 t220 _ ?side1 ?side2 ?side3 ?side4 ?sideT A2.out).mono ?_); (case sideT => first | exact HT.out | exact Tab.Tabs.below HT.out bel | (with_reducible repeat (first | exact HT.out | apply Tab.Tabs.alloc | apply Tab.Tabs.drewN | apply Tab.Tabs.drew))); (case side1 => repeat (first | exact (Kd.R_reads' HO215.out).2.2 | (with_reducible refine Kd.C_alloc ?_ _) | (with_reducible refine Kd.C_drewN ?_ _) | (with_reducible refine Kd.C_drew ?_))); (case side2 => exact (Kd.R_reads' HO215.out).2.1); (case side3 => repeat (first | exact (Kd.R_reads' HO218.out).2.2 | (with_reducible refine Kd.C_alloc ?_ _) | (with_reducible refine Kd.C_drewN ?_ _) | (with_reducible refine Kd.C_drew ?_))); (case side4 => exact (Kd.R_reads' HO218.out).2.1); rintro e w71 ⟨rfl, hb⟩; refine ⟨_, rfl, ?_⟩; replace HO204 := Aside0.mk (Kd.R_below (ownx HO204) hb); replace HO207 := Aside0.mk (Kd.R_below (ownx HO207) hb); replace HO211 := Aside0.mk (Kd.R_below (ownx HO211) hb); replace HO215 := Aside0.mk (Kd.R_below (ownx HO215) hb); replace HO218 := Aside0.mk (Kd.R_below (ownx HO218) hb); replace BK208 := Aside0.mk (blk_below (g := gb208) blkz hb); replace HB := Aside0.mk (below_step bel hb); (try clear hb); (try clear hb2); (try clear hk); (try clear hi)))
  go_ret
  exact ⟨ezz, bel⟩

/-! ### dropperlaw05_SameInts: function 21 -/
def dropperlaw05_SameInts.l0 : Nat → List Int → List Int → Int → Option (Bool)
 | 0, _, _, _ => none
 | k + 1, x0, x1, x5 => if x5 < (x0.length : Int) then (if 0 ≤ x5 then (if x5 < (x1.length : Int) then (if (rd x0 x5) = (rd x1 x5) then (dropperlaw05_SameInts.l0 k x0 x1 (wrap64 (x5 + 1))) else (some false)) else (none)) else (none)) else (some true)
def dropperlaw05_SameInts.f (k : Nat) (l0 : List Int) (l1 : List Int) : Option (Bool) := if (l0.length : Int) = (l1.length : Int) then (dropperlaw05_SameInts.l0 k l0 l1 0) else (some false)
theorem dropperlaw05_SameInts.mono_l : ∀ k, (∀ y0 y1 y2, LeO (dropperlaw05_SameInts.l0 k y0 y1 y2) (dropperlaw05_SameInts.l0 (k + 1) y0 y1 y2))
 | 0 => fun _ _ _ r h => by simp [dropperlaw05_SameInts.l0] at h
 | k + 1 => by
  have ih0 := dropperlaw05_SameInts.mono_l k
  ·
   intro y0 y1 y2
   unfold dropperlaw05_SameInts.l0
   repeat' first
   | (with_reducible exact ih0 _ _ _)
   | (with_reducible exact LeO.refl _)
   | (with_reducible exact LeO.none _)
   | (with_reducible refine LeO.ite ?_ ?_)
   | (with_reducible refine LeO.bind ?_ (fun _ => ?_))
   | exact ih0 _ _ _
   | exact LeO.none _
   | refine LeO.ite ?_ ?_
   | refine LeO.bind ?_ (fun _ => ?_)
theorem dropperlaw05_SameInts.mono : ∀ a0 a1 k, LeO (dropperlaw05_SameInts.f k a0 a1) (dropperlaw05_SameInts.f (k + 1) a0 a1) := by
 intro a0 a1 k
 have ih0 := dropperlaw05_SameInts.mono_l k
 unfold dropperlaw05_SameInts.f
 repeat' first
   | (with_reducible exact ih0 _ _ _)
   | (with_reducible exact LeO.refl _)
   | (with_reducible exact LeO.none _)
   | (with_reducible refine LeO.ite ?_ ?_)
   | (with_reducible refine LeO.bind ?_ (fun _ => ?_))
   | exact ih0 _ _ _
   | exact LeO.none _
   | refine LeO.ite ?_ ?_
   | refine LeO.bind ?_ (fun _ => ?_)
set_option maxHeartbeats 8000000 in
set_option maxRecDepth 100000 in
theorem dropperlaw05_SameInts.calls (k : Nat) (A0 : Option Addr) (c0 : Nat) (l0 : List Int) (A1 : Option Addr) (c1 : Nat) (l1 : List Int) (r : Bool) (w : World) (hr0 : Kd.C (Kd.int .i64) w A0 l0.length l0) (hc0 : l0.length ≤ c0) (hr1 : Kd.C (Kd.int .i64) w A1 l1.length l1) (hc1 : l1.length ≤ c1) (h : dropperlaw05_SameInts.f k l0 l1 = some r) :
  Calls Tryd.prog 21 #[.slice A0 l0.length c0, .slice A1 l1.length c1] w fun e w' => e = .returned (.bool r) ∧ Drawn0 w w' := by
 have HR0 := Aside0.mk hr0
 have HC0 := Aside0.mk hc0
 clear hr0 hc0
 have HR1 := Aside0.mk hr1
 have HC1 := Aside0.mk hc1
 clear hr1 hc1
 have H : (if (l0.length : Int) = (l1.length : Int) then (dropperlaw05_SameInts.l0 k l0 l1 0) else (some false)) = some r := h
 clear h
 by_cases c3 : (l0.length : Int) = (l1.length : Int)
 ·
  rw [if_pos c3] at H
  have c3b0 : ((l0.length : Int) == (l1.length : Int)) = true := beq_iff_eq.mpr c3
  have c3b1 : ((l0.length : Int) != (l1.length : Int)) = false := bne_eq_false_iff_eq.mpr c3
  have c3b2 : (l0.length == l1.length) = true := by first | simpa using c3 | (simp at c3 ⊢; omega)
  clear c3
  have H' := Aside0.mk H
  clear H
  go_enter Tryd.func21, Tryd.ntmps21
  go_wp2
  repeat (go_quiet (fail); try go_wp2)
  go_loopg [5] k (fun kq v5 w' => ∃ (x5_1 : Int), v5 = .int .i64 x5_1 ∧ Aside0 (dropperlaw05_SameInts.l0 kq l0 l1 x5_1 = some r) ∧ Aside0 (kq ≤ k) ∧ Drawn0 w w')
  case atStart => exact ⟨(0), rsz, H', ⟨Nat.le_refl _⟩, drz⟩
  case round =>
   clear H'
   try clear c1
   try clear c2
   try clear p2
   try clear c3
   try clear c3b0
   try clear c3b1
   try clear c3b2
   obtain ⟨x5_1, rfl, HA, HK1, ⟨m1, rfl⟩⟩ := hrel
   cases gk with
   | zero => exact absurd HA.out (by simp [dropperlaw05_SameInts.l0])
   | succ k1 =>
    have H := HA.out
    clear HA
    simp only [dropperlaw05_SameInts.l0] at H
    by_cases c4 : x5_1 < (l0.length : Int)
    ·
     rw [if_pos c4] at H
     have c4b0 : decide (x5_1 < (l0.length : Int)) = true := decide_eq_true c4
     clear c4
     by_cases c5 : 0 ≤ x5_1
     ·
      rw [if_pos c5] at H
      have c5b0 : decide (0 ≤ x5_1) = true := decide_eq_true c5
      clear c5
      by_cases c6 : x5_1 < (l1.length : Int)
      ·
       rw [if_pos c6] at H
       have c6b0 : decide (x5_1 < (l1.length : Int)) = true := decide_eq_true c6
       clear c6
       by_cases c7 : (rd l0 x5_1) = (rd l1 x5_1)
       ·
        rw [if_pos c7] at H
        have c7b0 : ((rd l0 x5_1) == (rd l1 x5_1)) = true := beq_iff_eq.mpr c7
        have c7b1 : ((rd l0 x5_1) != (rd l1 x5_1)) = false := bne_eq_false_iff_eq.mpr c7
        clear c7
        have H' := Aside0.mk H
        clear H
        have p300 : 0 ≤ (x5_1 : Int) := of_decide_eq_true asz
        have q300 : x5_1 < (l0.length : Int) := of_decide_eq_true asz
        obtain ⟨ad300, e300, hx300_0⟩ := Kd.at_int HR0.out x5_1 p300 q300
        cases e300
        replace p300 := eq_true p300
        replace q300 := eq_true q300
        have p301 : 0 ≤ (x5_1 : Int) := of_decide_eq_true asz
        have q301 : x5_1 < (l1.length : Int) := of_decide_eq_true asz
        obtain ⟨ad301, e301, hx301_0⟩ := Kd.at_int HR1.out x5_1 p301 q301
        cases e301
        replace p301 := eq_true p301
        replace q301 := eq_true q301
        go_wp2
        repeat (go_quiet (fail); try go_wp2)
        go_roundg k1
        case measure => have := HK1.out; omega
        case rel => exact ⟨(wrap64 (x5_1 + 1)), rsz, H', ⟨by have := HK1.out; omega⟩, drz⟩
       ·
        rw [if_neg c7] at H
        have c7b0 : ((rd l0 x5_1) == (rd l1 x5_1)) = false := beq_eq_false_iff_ne.mpr c7
        have c7b1 : ((rd l0 x5_1) != (rd l1 x5_1)) = true := bne_iff_ne.mpr c7
        obtain rfl := Option.some.inj H
        have p300 : 0 ≤ (x5_1 : Int) := of_decide_eq_true asz
        have q300 : x5_1 < (l0.length : Int) := of_decide_eq_true asz
        obtain ⟨ad300, e300, hx300_0⟩ := Kd.at_int HR0.out x5_1 p300 q300
        cases e300
        replace p300 := eq_true p300
        replace q300 := eq_true q300
        have p301 : 0 ≤ (x5_1 : Int) := of_decide_eq_true asz
        have q301 : x5_1 < (l1.length : Int) := of_decide_eq_true asz
        obtain ⟨ad301, e301, hx301_0⟩ := Kd.at_int HR1.out x5_1 p301 q301
        cases e301
        replace p301 := eq_true p301
        replace q301 := eq_true q301
        go_wp2
        repeat (go_quiet (fail); try go_wp2)
        go_ret
        exact ⟨by first | rfl | (simp; done) | (simp [*]; done), drz⟩
      ·
       rw [if_neg c6] at H
       exact absurd H (by simp)
     ·
      rw [if_neg c5] at H
      exact absurd H (by simp)
    ·
     rw [if_neg c4] at H
     have c4b0 : decide (x5_1 < (l0.length : Int)) = false := decide_eq_false c4
     clear c4
     obtain rfl := Option.some.inj H
     go_wp2
     repeat (go_quiet (fail); try go_wp2)
     go_ret
     exact ⟨by first | rfl | (simp; done) | (simp [*]; done), drz⟩
 ·
  rw [if_neg c3] at H
  have c3b0 : ((l0.length : Int) == (l1.length : Int)) = false := beq_eq_false_iff_ne.mpr c3
  have c3b1 : ((l0.length : Int) != (l1.length : Int)) = true := bne_iff_ne.mpr c3
  have c3b2 : (l0.length == l1.length) = false := by first | simpa using c3 | (simp at c3 ⊢; omega)
  obtain rfl := Option.some.inj H
  go_enter Tryd.func21, Tryd.ntmps21
  go_wp2
  repeat (go_quiet (fail); try go_wp2)
  go_ret
  exact ⟨by first | rfl | (simp; done) | (simp [*]; done), drz⟩

/-! ### feed_rule_kept: function 84 -/
def feed_rule_kept.l0 : Nat → List Int → Int → Int → Int → List (S69) → List (S71) → List Int → Option (Int)
 | 0, _, _, _, _, _, _, _ => none
 | k + 1, x6, x7, x8, x472000, x472001, x472002, x472003 => if x8 < x7 then (if 0 ≤ x8 then (if x8 < (x6.length : Int) then (if x8 > 0 then (if 0 ≤ (wrap64 (x8 - 1)) then (if (wrap64 (x8 - 1)) < (x472003.length : Int) then (if (rd x6 x8) ≤ (rd x472003 (wrap64 (x8 - 1))) then (some 2) else (feed_rule_kept.l0 k x6 x7 (wrap64 (x8 + 1)) x472000 x472001 x472002 x472003)) else (none)) else (none)) else (feed_rule_kept.l0 k x6 x7 (wrap64 (x8 + 1)) x472000 x472001 x472002 x472003)) else (none)) else (none)) else ((feed_grid_section.f x472000 x472001 x472002 x472003).bind fun t474 => (some t474))
def feed_rule_kept.f (k : Nat) (a0_0 : Int) (l0_1 : List (S69)) (l0_2 : List (S71)) (l0_3 : List Int) : Option (Int) := feed_rule_kept.l0 k l0_3 (l0_3.length : Int) 0 a0_0 l0_1 l0_2 l0_3
theorem feed_rule_kept.mono_l : ∀ k, (∀ y0 y1 y2 y3 y4 y5 y6, LeO (feed_rule_kept.l0 k y0 y1 y2 y3 y4 y5 y6) (feed_rule_kept.l0 (k + 1) y0 y1 y2 y3 y4 y5 y6))
 | 0 => fun _ _ _ _ _ _ _ r h => by simp [feed_rule_kept.l0] at h
 | k + 1 => by
  have ih0 := feed_rule_kept.mono_l k
  ·
   intro y0 y1 y2 y3 y4 y5 y6
   unfold feed_rule_kept.l0
   repeat' first
   | (with_reducible exact ih0 _ _ _ _ _ _ _)
   | (with_reducible exact LeO.refl _)
   | (with_reducible exact LeO.none _)
   | (with_reducible refine LeO.ite ?_ ?_)
   | (with_reducible refine LeO.bind ?_ (fun _ => ?_))
   | exact ih0 _ _ _ _ _ _ _
   | exact LeO.none _
   | refine LeO.ite ?_ ?_
   | refine LeO.bind ?_ (fun _ => ?_)
theorem feed_rule_kept.mono : ∀ a0 a1 a2 a3 k, LeO (feed_rule_kept.f k a0 a1 a2 a3) (feed_rule_kept.f (k + 1) a0 a1 a2 a3) := by
 intro a0 a1 a2 a3 k
 have ih0 := feed_rule_kept.mono_l k
 unfold feed_rule_kept.f
 repeat' first
   | (with_reducible exact ih0 _ _ _ _ _ _ _)
   | (with_reducible exact LeO.refl _)
   | (with_reducible exact LeO.none _)
   | (with_reducible refine LeO.ite ?_ ?_)
   | (with_reducible refine LeO.bind ?_ (fun _ => ?_))
   | exact ih0 _ _ _ _ _ _ _
   | exact LeO.none _
   | refine LeO.ite ?_ ?_
   | refine LeO.bind ?_ (fun _ => ?_)
set_option maxHeartbeats 8000000 in
set_option maxRecDepth 100000 in
theorem feed_rule_kept.calls (k : Nat) (a0_0 : Int) (A0_1 : Option Addr) (c0_1 : Nat) (l0_1 : List (S69)) (A0_2 : Option Addr) (c0_2 : Nat) (l0_2 : List (S71)) (A0_3 : Option Addr) (c0_3 : Nat) (l0_3 : List Int) (r : Int) (w : World) (hr0_1 : Kd.C k69 w A0_1 l0_1.length l0_1) (hc0_1 : l0_1.length ≤ c0_1) (hr0_2 : Kd.C k71 w A0_2 l0_2.length l0_2) (hc0_2 : l0_2.length ≤ c0_2) (hr0_3 : Kd.C (Kd.int .i64) w A0_3 l0_3.length l0_3) (hc0_3 : l0_3.length ≤ c0_3) (h : feed_rule_kept.f k a0_0 l0_1 l0_2 l0_3 = some r) :
  Calls Tryd.prog 84 #[.agg #[.int .i64 a0_0, .slice A0_1 l0_1.length c0_1, .slice A0_2 l0_2.length c0_2, .slice A0_3 l0_3.length c0_3]] w fun e w' => e = .returned (.int .i64 r) ∧ Below w.heap.size w w' := by
 have hu96 := Tryd.underlying96
 have hu73 := Tryd.underlying73
 have HR0_1 := Aside0.mk hr0_1
 have HC0_1 := Aside0.mk hc0_1
 clear hr0_1 hc0_1
 have HR0_2 := Aside0.mk hr0_2
 have HC0_2 := Aside0.mk hc0_2
 clear hr0_2 hc0_2
 have HR0_3 := Aside0.mk hr0_3
 have HC0_3 := Aside0.mk hc0_3
 clear hr0_3 hc0_3
 have HB := Aside0.mk (Below.refl w.heap.size w)
 have H : (feed_rule_kept.l0 k l0_3 (l0_3.length : Int) 0 a0_0 l0_1 l0_2 l0_3) = some r := h
 clear h
 have H' := Aside0.mk H
 clear H
 go_enter Tryd.func84, Tryd.ntmps84
 go_wp2_with (first | ((with_reducible refine gate_dst (N := 1) rfl ?_); refine box_event ?hg (N := 1) ?hd (cs := #[.int .i64 a0_0, .slice A0_1 l0_1.length c0_1, .slice A0_2 l0_2.length c0_2, .slice A0_3 l0_3.length c0_3]) (t := 96) ?hr ?_; (case hd => rfl); (case hg => rfl); (case hr => first | (go_simp; done) | (go_simp; rfl)); intro gb471 hg w2 hbox hb; have BK471 := Aside0.mk (hbox); have GW471 := bsz (w := w) hg; have GE471 := GW471; replace HB := Aside0.mk (below_step bel hb); clear hb hbox hg; have hcz3_0 := blkc BK471.out 0 (.int .i64 a0_0) rfl; have hcz3_1 := blkc BK471.out 1 (.slice A0_1 l0_1.length c0_1) rfl; have hcz3_2 := blkc BK471.out 2 (.slice A0_2 l0_2.length c0_2) rfl; have hcz3_3 := blkc BK471.out 3 (.slice A0_3 l0_3.length c0_3) rfl))
 go_loopg [8] k (fun kq v8 w' => ∃ (x8_1 : Int), v8 = .int .i64 x8_1 ∧ Aside0 (feed_rule_kept.l0 kq l0_3 (l0_3.length : Int) x8_1 a0_0 l0_1 l0_2 l0_3 = some r) ∧ Aside0 (kq ≤ k) ∧ Aside0 (w'.heap[gb471]? = some (.cells #[.int .i64 a0_0, (.slice A0_1 l0_1.length c0_1), (.slice A0_2 l0_2.length c0_2), (.slice A0_3 l0_3.length c0_3)] 96 (0, 0))) ∧ Aside0 (Below w.heap.size w w'))
 case atStart => exact ⟨(0), rsz, H', ⟨Nat.le_refl _⟩, ⟨blkz⟩, ⟨bel⟩⟩
 case round =>
  clear H'
  try clear p2
  try clear hcz3_0
  try clear hcz3_1
  try clear hcz3_2
  try clear hcz3_3
  try clear hfz3_0
  try clear hfz3_1
  try clear hfz3_2
  try clear hfz3_3
  obtain ⟨x8_1, rfl, HA, HK1, BK471, HB⟩ := hrel
  cases gk with
  | zero => exact absurd HA.out (by simp [feed_rule_kept.l0])
  | succ k1 =>
   have H := HA.out
   clear HA
   simp only [feed_rule_kept.l0] at H
   by_cases c4 : x8_1 < (l0_3.length : Int)
   ·
    rw [if_pos c4] at H
    have c4b0 : decide (x8_1 < (l0_3.length : Int)) = true := decide_eq_true c4
    clear c4
    by_cases c5 : 0 ≤ x8_1
    ·
     rw [if_pos c5] at H
     have c5b0 : decide (0 ≤ x8_1) = true := decide_eq_true c5
     clear c5
     by_cases c6 : x8_1 < (l0_3.length : Int)
     ·
      rw [if_pos c6] at H
      have c6b0 : decide (x8_1 < (l0_3.length : Int)) = true := decide_eq_true c6
      clear c6
      by_cases c7 : x8_1 > 0
      ·
       rw [if_pos c7] at H
       have c7b0 : decide (0 < x8_1) = true := decide_eq_true c7
       clear c7
       obtain ⟨ji8, hji8⟩ : ∃ j_ : Int, (wrap64 (x8_1 - 1)) = j_ := ⟨_, rfl⟩
       replace H : (if 0 ≤ (ji8) then (if (ji8) < (l0_3.length : Int) then (if (rd l0_3 x8_1) ≤ (rd l0_3 (ji8)) then (some 2) else (feed_rule_kept.l0 k1 l0_3 (l0_3.length : Int) (wrap64 (x8_1 + 1)) a0_0 l0_1 l0_2 l0_3)) else (none)) else (none)) = some r := by first | (rw [hji8] at H; exact H) | (simp only [hji8] at H ⊢; exact H)
       have hji8w : (IntKind.i64.wrap (x8_1 - 1)) = ji8 := (i64_w _).trans hji8
       by_cases c9 : 0 ≤ (ji8)
       ·
        rw [if_pos c9] at H
        have c9b0 : decide (0 ≤ (ji8)) = true := decide_eq_true c9
        clear c9
        by_cases c10 : (ji8) < (l0_3.length : Int)
        ·
         rw [if_pos c10] at H
         have c10b0 : decide ((ji8) < (l0_3.length : Int)) = true := decide_eq_true c10
         clear c10
         by_cases c11 : (rd l0_3 x8_1) ≤ (rd l0_3 (ji8))
         ·
          rw [if_pos c11] at H
          have c11b0 : decide ((rd l0_3 x8_1) ≤ (rd l0_3 (ji8))) = true := decide_eq_true c11
          clear c11
          obtain rfl := Option.some.inj H
          have p472 : 0 ≤ (x8_1 : Int) := of_decide_eq_true asz
          have q472 : x8_1 < (l0_3.length : Int) := of_decide_eq_true asz
          obtain ⟨ad472, e472, hx472_0⟩ := Kd.at_int HR0_3.out x8_1 p472 q472
          cases e472
          replace hx472_0 := (HB.out.cell (World.block_lt_of_cell? w _ hx472_0)).trans hx472_0
          replace p472 := eq_true p472
          replace q472 := eq_true q472
          have hcz12_0 := blkc BK471.out 0 (.int .i64 a0_0) rfl
          have hcz12_1 := blkc BK471.out 1 (.slice A0_1 l0_1.length c0_1) rfl
          have hcz12_2 := blkc BK471.out 2 (.slice A0_2 l0_2.length c0_2) rfl
          have hcz12_3 := blkc BK471.out 3 (.slice (some ad472) l0_3.length c0_3) rfl
          have hfz12_0 := blk_frozen BK471.out 0
          have hfz12_1 := blk_frozen BK471.out 1
          have hfz12_2 := blk_frozen BK471.out 2
          have hfz12_3 := blk_frozen BK471.out 3
          have p473 : 0 ≤ ((ji8) : Int) := of_decide_eq_true asz
          have q473 : (ji8) < (l0_3.length : Int) := of_decide_eq_true asz
          obtain ⟨ad473, e473, hx473_0⟩ := Kd.at_int HR0_3.out (ji8) p473 q473
          obtain rfl : ad472 = ad473 := (by injection e473)
          replace hx473_0 := (HB.out.cell (World.block_lt_of_cell? w _ hx473_0)).trans hx473_0
          replace p473 := eq_true p473
          replace q473 := eq_true q473
          go_wp2
          go_ret
          exact ⟨by first | rfl | (simp [errW_none, errW_some] <;> rfl) | (simp only [← hji8]; first | rfl | (simp [errW_none, errW_some] <;> rfl)) | (simp [*, errW_none, errW_some] <;> rfl), bel⟩
         ·
          rw [if_neg c11] at H
          have c11b0 : decide ((rd l0_3 x8_1) ≤ (rd l0_3 (ji8))) = false := decide_eq_false c11
          clear c11
          have H' := Aside0.mk H
          clear H
          have p472 : 0 ≤ (x8_1 : Int) := of_decide_eq_true asz
          have q472 : x8_1 < (l0_3.length : Int) := of_decide_eq_true asz
          obtain ⟨ad472, e472, hx472_0⟩ := Kd.at_int HR0_3.out x8_1 p472 q472
          cases e472
          replace hx472_0 := (HB.out.cell (World.block_lt_of_cell? w _ hx472_0)).trans hx472_0
          replace p472 := eq_true p472
          replace q472 := eq_true q472
          have hcz13_0 := blkc BK471.out 0 (.int .i64 a0_0) rfl
          have hcz13_1 := blkc BK471.out 1 (.slice A0_1 l0_1.length c0_1) rfl
          have hcz13_2 := blkc BK471.out 2 (.slice A0_2 l0_2.length c0_2) rfl
          have hcz13_3 := blkc BK471.out 3 (.slice (some ad472) l0_3.length c0_3) rfl
          have hfz13_0 := blk_frozen BK471.out 0
          have hfz13_1 := blk_frozen BK471.out 1
          have hfz13_2 := blk_frozen BK471.out 2
          have hfz13_3 := blk_frozen BK471.out 3
          have p473 : 0 ≤ ((ji8) : Int) := of_decide_eq_true asz
          have q473 : (ji8) < (l0_3.length : Int) := of_decide_eq_true asz
          obtain ⟨ad473, e473, hx473_0⟩ := Kd.at_int HR0_3.out (ji8) p473 q473
          obtain rfl : ad472 = ad473 := (by injection e473)
          replace hx473_0 := (HB.out.cell (World.block_lt_of_cell? w _ hx473_0)).trans hx473_0
          replace p473 := eq_true p473
          replace q473 := eq_true q473
          go_wp2
          go_roundg k1
          case measure => have := HK1.out; omega
          case rel => exact ⟨(wrap64 (x8_1 + 1)), rsz, H', ⟨by have := HK1.out; omega⟩, ⟨blkz⟩, ⟨bel⟩⟩
        ·
         rw [if_neg c10] at H
         exact absurd H (by simp)
       ·
        rw [if_neg c9] at H
        exact absurd H (by simp)
      ·
       rw [if_neg c7] at H
       have c7b0 : decide (0 < x8_1) = false := decide_eq_false c7
       clear c7
       have H' := Aside0.mk H
       clear H
       have p472 : 0 ≤ (x8_1 : Int) := of_decide_eq_true asz
       have q472 : x8_1 < (l0_3.length : Int) := of_decide_eq_true asz
       obtain ⟨ad472, e472, hx472_0⟩ := Kd.at_int HR0_3.out x8_1 p472 q472
       cases e472
       replace hx472_0 := (HB.out.cell (World.block_lt_of_cell? w _ hx472_0)).trans hx472_0
       replace p472 := eq_true p472
       replace q472 := eq_true q472
       go_wp2
       go_roundg k1
       case measure => have := HK1.out; omega
       case rel => exact ⟨(wrap64 (x8_1 + 1)), rsz, H', ⟨by have := HK1.out; omega⟩, ⟨blkz⟩, ⟨bel⟩⟩
     ·
      rw [if_neg c6] at H
      exact absurd H (by simp)
    ·
     rw [if_neg c5] at H
     exact absurd H (by simp)
   ·
    rw [if_neg c4] at H
    have c4b0 : decide (x8_1 < (l0_3.length : Int)) = false := decide_eq_false c4
    clear c4
    replace H := Option.bind_eq_some_iff.mp H
    obtain ⟨t474, A140, H⟩ := H
    replace H : (some t474) = some r := H
    have A14 := Aside0.mk A140
    clear A140
    obtain rfl := Option.some.inj H
    have hcz15_0 := blkc BK471.out 0 (.int .i64 a0_0) rfl
    have hcz15_1 := blkc BK471.out 1 (.slice A0_1 l0_1.length c0_1) rfl
    have hcz15_2 := blkc BK471.out 2 (.slice A0_2 l0_2.length c0_2) rfl
    have hcz15_3 := blkc BK471.out 3 (.slice A0_3 l0_3.length c0_3) rfl
    have hfz15_0 := blk_frozen BK471.out 0
    have hfz15_1 := blk_frozen BK471.out 1
    have hfz15_2 := blk_frozen BK471.out 2
    have hfz15_3 := blk_frozen BK471.out 3
    go_wp2_with (first | ((with_reducible refine gate_callee (f := 65) rfl ?_); refine goesL_ (some 30) rfl rfl Tryd.func65 (by kernel_rfl) rfl #[.agg #[.int .i64 a0_0, .slice A0_1 l0_1.length c0_1, .slice A0_2 l0_2.length c0_2], .slice A0_3 l0_3.length c0_3] rfl mapz ?_; (with_reducible refine (feed_grid_section.calls a0_0 _ _ l0_1 _ _ l0_2 _ _ l0_3 t474 _ ?side1 ?side2 ?side3 ?side4 ?side5 ?side6 A14.out).mono ?_); (case side1 => exact cbz HR0_1); (case side2 => exact HC0_1.out); (case side3 => exact cbz HR0_2); (case side4 => exact HC0_2.out); (case side5 => exact cbz HR0_3); (case side6 => exact HC0_3.out); rintro e w16 ⟨rfl, hb⟩; refine ⟨_, rfl, ?_⟩; replace BK471 := Aside0.mk (blk_below (g := gb471) blkz hb); replace HB := Aside0.mk (below_step bel hb); (try clear hb); (try clear hb2); (try clear hk); (try clear hi)))
    go_ret
    exact ⟨ezz, bel⟩

/-! ### feed_rule_keeps: function 85 -/
def feed_rule_keeps.p (t : List Int) (x : Int) : Bool := rd t x == 0
set_option maxHeartbeats 2000000 in
set_option maxRecDepth 100000 in
theorem feed_rule_keeps.clos (t : List Int) (g : Nat) (v0 : Value) (base : Nat) (ok : Nat → Prop) (x : Int) (w : World) (hcap : w.cell? ⟨g, 0, none⟩ = some v0) (hv : Kd.R (Kd.int .u64) 90 w base ok v0 t) (h0 : 0 ≤ x) (h1 : x < (t.length : Int)) :
  Calls Tryd.prog 106 #[.int .i64 x, .pointer (some ⟨g, 0, none⟩)] w fun e w' => e = .returned (.bool (feed_rule_keeps.p t x)) ∧ Below w.heap.size w w' := by
 obtain ⟨A, c, rfl, hlc, hC⟩ := Kd.R_reads hv
 have hl : t.length ≤ 9223372036854775807 := hC.2.1
 obtain ⟨ad, e1, hx0⟩ := Kd.at_int hC x h0 h1
 cases e1
 have HH := Aside0.mk hv
 clear hv hC
 replace h0 := eq_true h0
 replace h1 := eq_true h1
 go_enter Tryd.func106, Tryd.ntmps106
 go_wp2
 go_ret
 exact ⟨rfl, by repeat (first | exact Below.refl _ _ | apply pw_below_drewN)⟩
theorem feed_rule_keeps.enter (vs : Array Value) (W : World) : (callFunc 106 vs).run Tryd.prog W = .ok (.enter 106 vs) W := enters_ Tryd.func106 (by kernel_rfl) (by kernel_rfl) vs W
def feed_rule_keeps.f (k : Nat) (a0_0 : Int) (l0_1 : List S69) (l0_2 : List S71) (l0_3 : List Int) (a1 : Int) : Option Bool :=
 (feed_grid_fed.f k a0_0 l0_1 l0_2 a1).bind fun t => (feed_grid_right.f k a0_0 l0_1 l0_2 a1).bind fun b => if b = true then (if (l0_3.all fun x => decide (0 ≤ x) && decide (x < (t.length : Int))) = true then some (!(l0_3.any (feed_rule_keeps.p t))) else none) else some false
theorem feed_rule_keeps.mono : ∀ a0 a1 a2 a3 a4 k, LeO (feed_rule_keeps.f k a0 a1 a2 a3 a4) (feed_rule_keeps.f (k + 1) a0 a1 a2 a3 a4) := by
 intro a0 a1 a2 a3 a4 k
 unfold feed_rule_keeps.f
 exact LeO.bind (feed_grid_fed.mono _ _ _ _ k) (fun _ => LeO.bind (feed_grid_right.mono _ _ _ _ k) (fun _ => LeO.refl _))
set_option maxHeartbeats 4000000 in
set_option maxRecDepth 100000 in
theorem feed_rule_keeps.calls (k : Nat) (a0_0 : Int) (A0_1 : Option Addr) (c0_1 : Nat) (l0_1 : List S69) (A0_2 : Option Addr) (c0_2 : Nat) (l0_2 : List S71) (A0_3 : Option Addr) (c0_3 : Nat) (l0_3 : List Int) (a1 : Int) (r : Bool) (w : World) (hr0_1 : Kd.C k69 w A0_1 l0_1.length l0_1) (hc0_1 : l0_1.length ≤ c0_1) (hr0_2 : Kd.C k71 w A0_2 l0_2.length l0_2) (hc0_2 : l0_2.length ≤ c0_2) (hr0_3 : Kd.C (Kd.int .i64) w A0_3 l0_3.length l0_3) (hc0_3 : l0_3.length ≤ c0_3) (hT : Tab.Tabs w) (h : feed_rule_keeps.f k a0_0 l0_1 l0_2 l0_3 a1 = some r) :
  Calls Tryd.prog 85 #[.agg #[.int .i64 a0_0, .slice A0_1 l0_1.length c0_1, .slice A0_2 l0_2.length c0_2, .slice A0_3 l0_3.length c0_3], .int .i64 a1] w fun e w' => e = .returned (.bool r) ∧ Below w.heap.size w w' := by
 have hu := Tryd.underlying25
 have hu2 := Tryd.underlying73
 have hu3 := Tryd.underlying96
 have HT := Aside0.mk hT
 have HR1 := Aside0.mk hr0_1
 have HR2 := Aside0.mk hr0_2
 have HR3 := Aside0.mk hr0_3
 clear hr0_1 hr0_2 hr0_3 hT
 unfold feed_rule_keeps.f at h
 obtain ⟨t, ht, h⟩ := Option.bind_eq_some_iff.1 h
 obtain ⟨b, hb, h⟩ := Option.bind_eq_some_iff.1 h
 have HF := Aside0.mk ht
 have HG := Aside0.mk hb
 have HH := Aside0.mk h
 clear ht hb h
 obtain ⟨w1, hw1⟩ : ∃ w1, w1 = w.alloc (.cells #[.int .i64 a0_0, .slice A0_1 l0_1.length c0_1, .slice A0_2 l0_2.length c0_2, .slice A0_3 l0_3.length c0_3] 96) := ⟨_, rfl⟩
 have hB1 : Aside0 (Below w.heap.size w w1) := ⟨by rw [hw1]; exact below_alloc (Below.refl _ _) _⟩
 have hz1 : w1.heap.size = w.heap.size + 1 := by rw [hw1]; exact Array.size_push ..
 have hcell : Aside0 (∀ W, Below w1.heap.size w1 W → ∀ j, W.cell? ⟨w.heap.size, j, none⟩ = (#[.int .i64 a0_0, .slice A0_1 l0_1.length c0_1, .slice A0_2 l0_2.length c0_2, .slice A0_3 l0_3.length c0_3] : Array Value)[j]?) := ⟨fun W hb j => by
  rw [hb.cell (by show w.heap.size < _; omega), hw1, World.cell?_alloc_at _ _ _ _ rfl]⟩
 have hW1 : Aside0 (w1 = w.alloc (.cells #[.int .i64 a0_0, .slice A0_1 l0_1.length c0_1, .slice A0_2 l0_2.length c0_2, .slice A0_3 l0_3.length c0_3] 96)) := ⟨hw1⟩
 have hs1 := Aside0.mk hz1
 have hc0 := (hcell.out w1 (Below.refl _ _) 0)
 have hc1 := (hcell.out w1 (Below.refl _ _) 1)
 have hc2 := (hcell.out w1 (Below.refl _ _) 2)
 clear hw1 hz1
 cases b with
 | false =>
  obtain rfl := Option.some.inj HH.out
  go_enter Tryd.func85, Tryd.ntmps85
  go_wp2_with (first
   | (go_at_call 89; rw [← hW1.out]; (refine (feed_grid_fed.calls k a0_0 _ c0_1 l0_1 _ c0_2 l0_2 a1 t _ (Kd.C_below HR1.out hB1.out) hc0_1 (Kd.C_below HR2.out hB1.out) hc0_2 HF.out).mono ?_); rintro e w2 ⟨v0, rfl, hv, hb⟩; obtain ⟨Af, cf, hve, _, _⟩ := Kd.R_reads hv; subst hve; have HV := Aside0.mk hv; have HB12 := Aside0.mk (below_step hB1.out hb); have HQ := Aside0.mk (fun W hB => hcell.out W (below_step hb hB)); have hq0 := fun o => HQ.out (w2.alloc o) (below_alloc (Below.refl _ _) o) 0; have hq1 := fun o => HQ.out (w2.alloc o) (below_alloc (Below.refl _ _) o) 1; have hq2 := fun o => HQ.out (w2.alloc o) (below_alloc (Below.refl _ _) o) 2; have hq3 := fun o => HQ.out (w2.alloc o) (below_alloc (Below.refl _ _) o) 3; have hne := Aside0.mk (show w.heap.size + 1 ≤ w2.heap.size by have := hb.size; have := hs1.out; omega); clear hv hb)
   | (go_at_call 50; (refine (feed_grid_right.calls k a0_0 _ c0_1 l0_1 _ c0_2 l0_2 a1 false _ (Kd.C_below HR1.out (below_alloc HB12.out _)) hc0_1 (Kd.C_below HR2.out (below_alloc HB12.out _)) hc0_2 (Tab.Tabs.below HT.out (below_alloc HB12.out _)) HG.out).mono ?_); rintro e w3 ⟨rfl, hb⟩; have HB3 := Aside0.mk (below_step (below_alloc HB12.out _) hb); have HC := Aside0.mk (Kd.R_below (Kd.R_alloc HV.out _) hb); have hcap := Aside0.mk ((hb.cell (p := ⟨w2.heap.size, 0, none⟩) (by show w2.heap.size < (w2.heap.push _).size; rw [Array.size_push]; omega)).trans (World.cell?_alloc_at _ _ _ _ rfl)); have hq3_ := HQ.out w3 (below_step (below_alloc (Below.refl _ _) _) hb) 3; clear hb))
  go_ret
  exact ⟨rfl, HB3.out⟩
 | true =>
  by_cases hall : (l0_3.all fun x => decide (0 ≤ x) && decide (x < (t.length : Int))) = true
  ·
   have h2 := HH.out
   rw [if_pos rfl, if_pos hall] at h2
   obtain rfl := Option.some.inj h2
   have HA : Aside0 (∀ x ∈ l0_3, 0 ≤ x ∧ x < (t.length : Int)) := ⟨fun x hx => by
    have := List.all_eq_true.1 hall x hx
    simpa using this⟩
   clear h2 hall HH
   by_cases h3 : l0_3.any (feed_rule_keeps.p t) = true
   ·
    rw [h3]
    have H3 := Aside0.mk h3
    clear h3
    go_enter Tryd.func85, Tryd.ntmps85
    go_wp2_with (first
     | (go_at_call 89; rw [← hW1.out]; (refine (feed_grid_fed.calls k a0_0 _ c0_1 l0_1 _ c0_2 l0_2 a1 t _ (Kd.C_below HR1.out hB1.out) hc0_1 (Kd.C_below HR2.out hB1.out) hc0_2 HF.out).mono ?_); rintro e w2 ⟨v0, rfl, hv, hb⟩; obtain ⟨Af, cf, hve, _, _⟩ := Kd.R_reads hv; subst hve; have HV := Aside0.mk hv; have HB12 := Aside0.mk (below_step hB1.out hb); have HQ := Aside0.mk (fun W hB => hcell.out W (below_step hb hB)); have hq0 := fun o => HQ.out (w2.alloc o) (below_alloc (Below.refl _ _) o) 0; have hq1 := fun o => HQ.out (w2.alloc o) (below_alloc (Below.refl _ _) o) 1; have hq2 := fun o => HQ.out (w2.alloc o) (below_alloc (Below.refl _ _) o) 2; have hq3 := fun o => HQ.out (w2.alloc o) (below_alloc (Below.refl _ _) o) 3; have hne := Aside0.mk (show w.heap.size + 1 ≤ w2.heap.size by have := hb.size; have := hs1.out; omega); clear hv hb)
     | (go_at_call 50; (refine (feed_grid_right.calls k a0_0 _ c0_1 l0_1 _ c0_2 l0_2 a1 true _ (Kd.C_below HR1.out (below_alloc HB12.out _)) hc0_1 (Kd.C_below HR2.out (below_alloc HB12.out _)) hc0_2 (Tab.Tabs.below HT.out (below_alloc HB12.out _)) HG.out).mono ?_); rintro e w3 ⟨rfl, hb⟩; have HB3 := Aside0.mk (below_step (below_alloc HB12.out _) hb); have HC := Aside0.mk (Kd.R_below (Kd.R_alloc HV.out _) hb); have hcap := Aside0.mk ((hb.cell (p := ⟨w2.heap.size, 0, none⟩) (by show w2.heap.size < (w2.heap.push _).size; rw [Array.size_push]; omega)).trans (World.cell?_alloc_at _ _ _ _ rfl)); have hq3_ := HQ.out w3 (below_step (below_alloc (Below.refl _ _) _) hb) 3; have hlt3 := Aside0.mk (show w2.heap.size < w3.heap.size by have := hb.size; have h1 : (w2.alloc (.cells #[.slice Af t.length cf] 118)).heap.size = w2.heap.size + 1 := Array.size_push ..; omega); clear hb)
     | (go_at_call 86; (refine (slices_ContainsFunc_int_int.contains 106 #[.pointer (some ⟨w2.heap.size, 0, none⟩)] (feed_rule_keeps.p t) _ c0_3 l0_3 _ (Kd.C_below HR3.out HB3.out) hc0_3 feed_rule_keeps.enter (fun x hx W hB => feed_rule_keeps.clos t w2.heap.size _ _ _ x W ((hB.cell (p := ⟨w2.heap.size, 0, none⟩) hlt3.out).trans hcap.out) (Kd.R_below HC.out hB) (HA.out x hx).1 (HA.out x hx).2)).mono ?_); rintro e w4 ⟨rfl, hb⟩; have HB4 := Aside0.mk (below_step HB3.out hb); clear hb; rw [H3.out]))
    go_ret
    exact ⟨rfl, HB4.out⟩
   ·
    replace h3 := Bool.eq_false_iff.mpr h3
    rw [h3]
    have H3 := Aside0.mk h3
    clear h3
    go_enter Tryd.func85, Tryd.ntmps85
    go_wp2_with (first
     | (go_at_call 89; rw [← hW1.out]; (refine (feed_grid_fed.calls k a0_0 _ c0_1 l0_1 _ c0_2 l0_2 a1 t _ (Kd.C_below HR1.out hB1.out) hc0_1 (Kd.C_below HR2.out hB1.out) hc0_2 HF.out).mono ?_); rintro e w2 ⟨v0, rfl, hv, hb⟩; obtain ⟨Af, cf, hve, _, _⟩ := Kd.R_reads hv; subst hve; have HV := Aside0.mk hv; have HB12 := Aside0.mk (below_step hB1.out hb); have HQ := Aside0.mk (fun W hB => hcell.out W (below_step hb hB)); have hq0 := fun o => HQ.out (w2.alloc o) (below_alloc (Below.refl _ _) o) 0; have hq1 := fun o => HQ.out (w2.alloc o) (below_alloc (Below.refl _ _) o) 1; have hq2 := fun o => HQ.out (w2.alloc o) (below_alloc (Below.refl _ _) o) 2; have hq3 := fun o => HQ.out (w2.alloc o) (below_alloc (Below.refl _ _) o) 3; have hne := Aside0.mk (show w.heap.size + 1 ≤ w2.heap.size by have := hb.size; have := hs1.out; omega); clear hv hb)
     | (go_at_call 50; (refine (feed_grid_right.calls k a0_0 _ c0_1 l0_1 _ c0_2 l0_2 a1 true _ (Kd.C_below HR1.out (below_alloc HB12.out _)) hc0_1 (Kd.C_below HR2.out (below_alloc HB12.out _)) hc0_2 (Tab.Tabs.below HT.out (below_alloc HB12.out _)) HG.out).mono ?_); rintro e w3 ⟨rfl, hb⟩; have HB3 := Aside0.mk (below_step (below_alloc HB12.out _) hb); have HC := Aside0.mk (Kd.R_below (Kd.R_alloc HV.out _) hb); have hcap := Aside0.mk ((hb.cell (p := ⟨w2.heap.size, 0, none⟩) (by show w2.heap.size < (w2.heap.push _).size; rw [Array.size_push]; omega)).trans (World.cell?_alloc_at _ _ _ _ rfl)); have hq3_ := HQ.out w3 (below_step (below_alloc (Below.refl _ _) _) hb) 3; have hlt3 := Aside0.mk (show w2.heap.size < w3.heap.size by have := hb.size; have h1 : (w2.alloc (.cells #[.slice Af t.length cf] 118)).heap.size = w2.heap.size + 1 := Array.size_push ..; omega); clear hb)
     | (go_at_call 86; (refine (slices_ContainsFunc_int_int.contains 106 #[.pointer (some ⟨w2.heap.size, 0, none⟩)] (feed_rule_keeps.p t) _ c0_3 l0_3 _ (Kd.C_below HR3.out HB3.out) hc0_3 feed_rule_keeps.enter (fun x hx W hB => feed_rule_keeps.clos t w2.heap.size _ _ _ x W ((hB.cell (p := ⟨w2.heap.size, 0, none⟩) hlt3.out).trans hcap.out) (Kd.R_below HC.out hB) (HA.out x hx).1 (HA.out x hx).2)).mono ?_); rintro e w4 ⟨rfl, hb⟩; have HB4 := Aside0.mk (below_step HB3.out hb); clear hb; rw [H3.out]))
    go_ret
    exact ⟨rfl, HB4.out⟩
  ·
   have h2 := HH.out
   rw [if_pos rfl, if_neg hall] at h2
   cases h2

end Go.Proofs.YtoilhnmdemnknaaDoor.XFeed