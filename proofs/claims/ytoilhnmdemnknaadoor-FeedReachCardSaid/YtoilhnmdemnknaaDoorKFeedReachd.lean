-- Written by wip/pack.py of this repo: texts of this claim, put together.
import Derived.Test.YtoilhnmdemnknaaDoorKFeedReachc
namespace Go.Proofs.YtoilhnmdemnknaaDoor.XFeed
open Go.RowKit Go.Proofs.YtoilhnmdemnknaaDoorW.PrintWords Go.Proofs.YtoilhnmdemnknaaDoorW.PrintLast Go.Proofs.YtoilhnmdemnknaaDoorW.PrintMore
attribute [local go_sem] max2_int min2_int max_two min_two max_three min_three max_four min_four   -- for this text's walks alone
set_option linter.unusedVariables false
set_option linter.unusedSimpArgs false
/-! ### feed_ruled: function 69 -/
def feed_ruled.f (k : Nat) (a0_0 : Int) (l0_1 : List (S69)) (l0_2 : List (S71)) (a1 : Int) (l2 : List Int) : Option (Int × Int) := (feed_Valid.f a0_0 l0_1 l0_2).bind fun t478 => (if t478 = true then ((feed_rule_kept.f k a0_0 l0_1 l0_2 l2).bind fun t479 => (if t479 = 0 then ((feed_grid_all.f a0_0 l0_1 l0_2).bind fun t480 => ((feed_within.f 0 a1 (wrap64 (t480 - 1))).bind fun t481 => (if t481 = true then ((feed_rule_keeps.f k a0_0 l0_1 l0_2 l2 a1).bind fun t482 => (if t482 = true then (some (a0_0, 0)) else (some (a0_0, 51)))) else (some (a0_0, 51))))) else (some (a0_0, t479)))) else (some (a0_0, 50)))
theorem feed_ruled.mono : ∀ a0 a1 a2 a3 a4 k, LeO (feed_ruled.f k a0 a1 a2 a3 a4) (feed_ruled.f (k + 1) a0 a1 a2 a3 a4) := by
 intro a0 a1 a2 a3 a4 k
 unfold feed_ruled.f
 repeat' first
   | (with_reducible exact feed_rule_keeps.mono _ _ _ _ _ _)
   | (with_reducible exact feed_rule_kept.mono _ _ _ _ _)
   | (with_reducible exact LeO.refl _)
   | (with_reducible exact LeO.none _)
   | (with_reducible refine LeO.ite ?_ ?_)
   | (with_reducible refine LeO.bind ?_ (fun _ => ?_))
   | exact feed_rule_keeps.mono _ _ _ _ _ _
   | exact feed_rule_kept.mono _ _ _ _ _
   | exact LeO.none _
   | refine LeO.ite ?_ ?_
   | refine LeO.bind ?_ (fun _ => ?_)
set_option maxHeartbeats 8000000 in
set_option maxRecDepth 100000 in
theorem feed_ruled.calls (k : Nat) (a0_0 : Int) (A0_1 : Option Addr) (c0_1 : Nat) (l0_1 : List (S69)) (A0_2 : Option Addr) (c0_2 : Nat) (l0_2 : List (S71)) (a1 : Int) (A2 : Option Addr) (c2 : Nat) (l2 : List Int) (r1 : Int) (r2 : Int) (w : World) (hr0_1 : Kd.C k69 w A0_1 l0_1.length l0_1) (hc0_1 : l0_1.length ≤ c0_1) (hr0_2 : Kd.C k71 w A0_2 l0_2.length l0_2) (hc0_2 : l0_2.length ≤ c0_2) (hr2 : Kd.C (Kd.int .i64) w A2 l2.length l2) (hc2 : l2.length ≤ c2) (hT : Tab.Tabs w) (h : feed_ruled.f k a0_0 l0_1 l0_2 a1 l2 = some (r1, r2)) :
  Calls Tryd.prog 69 #[.agg #[.int .i64 a0_0, .slice A0_1 l0_1.length c0_1, .slice A0_2 l0_2.length c0_2], .int .i64 a1, .slice A2 l2.length c2] w fun e w' => e = .returned (.tuple #[.agg #[.int .i64 r1, .slice A0_1 l0_1.length c0_1, .slice A0_2 l0_2.length c0_2, .slice A2 l2.length c2], .int .i64 r2]) ∧ Below w.heap.size w w' := by
 have HT := Aside0.mk hT
 clear hT
 have hu25 := Tryd.underlying25
 have hu96 := Tryd.underlying96
 have hu73 := Tryd.underlying73
 have HR0_1 := Aside0.mk hr0_1
 have HC0_1 := Aside0.mk hc0_1
 clear hr0_1 hc0_1
 have HR0_2 := Aside0.mk hr0_2
 have HC0_2 := Aside0.mk hc0_2
 clear hr0_2 hc0_2
 have HR2 := Aside0.mk hr2
 have HC2 := Aside0.mk hc2
 clear hr2 hc2
 have HB := Aside0.mk (Below.refl w.heap.size w)
 have H : ((feed_Valid.f a0_0 l0_1 l0_2).bind fun t478 => (if t478 = true then ((feed_rule_kept.f k a0_0 l0_1 l0_2 l2).bind fun t479 => (if t479 = 0 then ((feed_grid_all.f a0_0 l0_1 l0_2).bind fun t480 => ((feed_within.f 0 a1 (wrap64 (t480 - 1))).bind fun t481 => (if t481 = true then ((feed_rule_keeps.f k a0_0 l0_1 l0_2 l2 a1).bind fun t482 => (if t482 = true then (some (a0_0, 0)) else (some (a0_0, 51)))) else (some (a0_0, 51))))) else (some (a0_0, t479)))) else (some (a0_0, 50)))) = some (r1, r2) := h
 clear h
 replace H := Option.bind_eq_some_iff.mp H
 obtain ⟨t478, A40, H⟩ := H
 replace H : (if t478 = true then ((feed_rule_kept.f k a0_0 l0_1 l0_2 l2).bind fun t479 => (if t479 = 0 then ((feed_grid_all.f a0_0 l0_1 l0_2).bind fun t480 => ((feed_within.f 0 a1 (wrap64 (t480 - 1))).bind fun t481 => (if t481 = true then ((feed_rule_keeps.f k a0_0 l0_1 l0_2 l2 a1).bind fun t482 => (if t482 = true then (some (a0_0, 0)) else (some (a0_0, 51)))) else (some (a0_0, 51))))) else (some (a0_0, t479)))) else (some (a0_0, 50))) = some (r1, r2) := H
 have A4 := Aside0.mk A40
 clear A40
 by_cases c5 : t478 = true
 ·
  subst c5
  have H1 : ((feed_rule_kept.f k a0_0 l0_1 l0_2 l2).bind fun t479 => (if t479 = 0 then ((feed_grid_all.f a0_0 l0_1 l0_2).bind fun t480 => ((feed_within.f 0 a1 (wrap64 (t480 - 1))).bind fun t481 => (if t481 = true then ((feed_rule_keeps.f k a0_0 l0_1 l0_2 l2 a1).bind fun t482 => (if t482 = true then (some (a0_0, 0)) else (some (a0_0, 51)))) else (some (a0_0, 51))))) else (some (a0_0, t479)))) = some (r1, r2) := by rw [if_pos rfl] at H; exact H
  clear H
  have H := H1
  clear H1
  replace H := Option.bind_eq_some_iff.mp H
  obtain ⟨t479, A60, H⟩ := H
  replace H : (if t479 = 0 then ((feed_grid_all.f a0_0 l0_1 l0_2).bind fun t480 => ((feed_within.f 0 a1 (wrap64 (t480 - 1))).bind fun t481 => (if t481 = true then ((feed_rule_keeps.f k a0_0 l0_1 l0_2 l2 a1).bind fun t482 => (if t482 = true then (some (a0_0, 0)) else (some (a0_0, 51)))) else (some (a0_0, 51))))) else (some (a0_0, t479))) = some (r1, r2) := H
  have A6 := Aside0.mk A60
  clear A60
  by_cases c7 : t479 = 0
  ·
   rw [if_pos c7] at H
   have c7b0 : (t479 == 0) = true := beq_iff_eq.mpr c7
   have c7b1 : (t479 != 0) = false := bne_eq_false_iff_eq.mpr c7
   clear c7
   replace H := Option.bind_eq_some_iff.mp H
   obtain ⟨t480, A80, H⟩ := H
   replace H : ((feed_within.f 0 a1 (wrap64 (t480 - 1))).bind fun t481 => (if t481 = true then ((feed_rule_keeps.f k a0_0 l0_1 l0_2 l2 a1).bind fun t482 => (if t482 = true then (some (a0_0, 0)) else (some (a0_0, 51)))) else (some (a0_0, 51)))) = some (r1, r2) := H
   have A8 := Aside0.mk A80
   clear A80
   replace H := Option.bind_eq_some_iff.mp H
   obtain ⟨t481, A90, H⟩ := H
   replace H : (if t481 = true then ((feed_rule_keeps.f k a0_0 l0_1 l0_2 l2 a1).bind fun t482 => (if t482 = true then (some (a0_0, 0)) else (some (a0_0, 51)))) else (some (a0_0, 51))) = some (r1, r2) := H
   have A9 := Aside0.mk A90
   clear A90
   by_cases c10 : t481 = true
   ·
    subst c10
    have H1 : ((feed_rule_keeps.f k a0_0 l0_1 l0_2 l2 a1).bind fun t482 => (if t482 = true then (some (a0_0, 0)) else (some (a0_0, 51)))) = some (r1, r2) := by rw [if_pos rfl] at H; exact H
    clear H
    have H := H1
    clear H1
    replace H := Option.bind_eq_some_iff.mp H
    obtain ⟨t482, A110, H⟩ := H
    replace H : (if t482 = true then (some (a0_0, 0)) else (some (a0_0, 51))) = some (r1, r2) := H
    have A11 := Aside0.mk A110
    clear A110
    by_cases c12 : t482 = true
    ·
     subst c12
     have H1 : (some (a0_0, 0)) = some (r1, r2) := by rw [if_pos rfl] at H; exact H
     clear H
     have H := H1
     clear H1
     simp only [Option.some.injEq, Prod.mk.injEq] at H
     obtain ⟨rfl, rfl⟩ := H
     go_enter Tryd.func69, Tryd.ntmps69
     go_wp2_with (first | ((with_reducible refine gate_dst (N := 3) rfl ?_); refine box_event ?hg (N := 3) ?hd (cs := #[.int .i64 a0_0, .slice A0_1 l0_1.length c0_1, .slice A0_2 l0_2.length c0_2]) (t := 25) ?hr ?_; (case hd => rfl); (case hg => rfl); (case hr => first | (go_simp; done) | (go_simp; rfl)); intro gb475 hg w13 hbox hb; have BK475 := Aside0.mk (hbox); have GW475 := bsz (w := w) hg; have GE475 := GW475; replace HB := Aside0.mk (below_step bel hb); clear hb hbox hg) | ((with_reducible refine gate_dst (N := 6) rfl ?_); refine box_event ?hg (N := 6) ?hd (cs := #[.int .i64 0, .slice none 0 0, .slice none 0 0, .slice none 0 0]) (t := 96) ?hr ?_; (case hd => rfl); (case hg => rfl); (case hr => first | (go_simp; done) | (go_simp; rfl)); intro gb476 hg w14 hbox hb; have BK476 := Aside0.mk (hbox); have GW476 := bsz (w := w) hg; have GE476 := GW476; have NB475_476 := neL (g := gb475) hg; have NB476_475 := neR (g := gb475) hg; replace BK475 := Aside0.mk (blk_below (g := gb475) blkz hb); replace HB := Aside0.mk (below_step bel hb); clear hb hbox hg; have hnb15 := NB475_476.out; have hnc15 := NB476_475.out; have hcz16_0 := blkc BK475.out 0 (.int .i64 a0_0) rfl; have hcz16_1 := blkc BK475.out 1 (.slice A0_1 l0_1.length c0_1) rfl; have hcz16_2 := blkc BK475.out 2 (.slice A0_2 l0_2.length c0_2) rfl) | ((with_reducible refine gate_dst (N := 8) rfl ?_); refine box_event ?hg (N := 8) ?hd (cs := #[.int .i64 0, .slice none 0 0, .slice none 0 0, .slice none 0 0]) (t := 96) ?hr ?_; (case hd => rfl); (case hg => rfl); (case hr => first | (go_simp; done) | (go_simp; rfl)); intro gb477 hg w17 hbox hb; have BK477 := Aside0.mk (hbox); have GW477 := bsz (w := w) hg; have GE477 := GW477; have NB475_477 := neL (g := gb475) hg; have NB477_475 := neR (g := gb475) hg; have NB476_477 := neL (g := gb476) hg; have NB477_476 := neR (g := gb476) hg; replace BK475 := Aside0.mk (blk_below (g := gb475) blkz hb); replace BK476 := Aside0.mk (blk_below (g := gb476) blkz hb); replace HB := Aside0.mk (below_step bel hb); clear hb hbox hg; have hnb18 := NB477_475.out; have hnc18 := NB475_477.out; have hnb19 := NB477_476.out; have hnc19 := NB476_477.out; have hcz20_0 := blkc BK477.out 0 (.int .i64 0) rfl; have hcz20_1 := blkc BK477.out 1 (.slice none 0 0) rfl; have hcz20_2 := blkc BK477.out 2 (.slice none 0 0) rfl; have hcz20_3 := blkc BK477.out 3 (.slice none 0 0) rfl; have hfz20_0 := blk_frozen BK477.out 0; have hfz20_1 := blk_frozen BK477.out 1; have hfz20_2 := blk_frozen BK477.out 2; have hfz20_3 := blk_frozen BK477.out 3; have hcz21_0 := blkc BK475.out 0 (.int .i64 a0_0) rfl; have hcz21_1 := blkc BK475.out 1 (.slice A0_1 l0_1.length c0_1) rfl; have hcz21_2 := blkc BK475.out 2 (.slice A0_2 l0_2.length c0_2) rfl) | ((with_reducible refine gate_callee (f := 19) rfl ?_); refine goesL_ (some 15) rfl rfl Tryd.func19 (by kernel_rfl) rfl #[.agg #[.int .i64 a0_0, .slice A0_1 l0_1.length c0_1, .slice A0_2 l0_2.length c0_2]] rfl mapz ?_; (with_reducible refine (feed_Valid.calls a0_0 _ _ l0_1 _ _ l0_2 true _ ?side1 ?side2 ?side3 ?side4 A4.out).mono ?_); (case side1 => exact cbz HR0_1); (case side2 => exact HC0_1.out); (case side3 => exact cbz HR0_2); (case side4 => exact HC0_2.out); rintro e w22 ⟨rfl, hb⟩; refine ⟨_, rfl, ?_⟩; replace BK475 := Aside0.mk (blk_below (g := gb475) (o := .cells #[.int .i64 a0_0, .slice A0_1 l0_1.length c0_1, .slice A0_2 l0_2.length c0_2] 25 (0, 0)) (by (with_reducible repeat (first | refine blk_drewN ?_ _ | refine blk_drew ?_ | refine blk_alloc ?_ _)); refine blk_far ?_ NB475_477.out _; (with_reducible repeat (first | refine blk_drewN ?_ _ | refine blk_drew ?_ | refine blk_alloc ?_ _)); refine blk_far ?_ NB475_477.out _; (with_reducible repeat (first | refine blk_drewN ?_ _ | refine blk_drew ?_ | refine blk_alloc ?_ _)); refine blk_far ?_ NB475_477.out _; (with_reducible repeat (first | refine blk_drewN ?_ _ | refine blk_drew ?_ | refine blk_alloc ?_ _)); refine blk_far ?_ NB475_477.out _; (with_reducible repeat (first | refine blk_drewN ?_ _ | refine blk_drew ?_ | refine blk_alloc ?_ _)); exact BK475.out) hb); replace BK476 := Aside0.mk (blk_below (g := gb476) (o := .cells #[.int .i64 0, .slice none 0 0, .slice none 0 0, .slice none 0 0] 96 (0, 0)) (by (with_reducible repeat (first | refine blk_drewN ?_ _ | refine blk_drew ?_ | refine blk_alloc ?_ _)); refine blk_far ?_ NB476_477.out _; (with_reducible repeat (first | refine blk_drewN ?_ _ | refine blk_drew ?_ | refine blk_alloc ?_ _)); refine blk_far ?_ NB476_477.out _; (with_reducible repeat (first | refine blk_drewN ?_ _ | refine blk_drew ?_ | refine blk_alloc ?_ _)); refine blk_far ?_ NB476_477.out _; (with_reducible repeat (first | refine blk_drewN ?_ _ | refine blk_drew ?_ | refine blk_alloc ?_ _)); refine blk_far ?_ NB476_477.out _; (with_reducible repeat (first | refine blk_drewN ?_ _ | refine blk_drew ?_ | refine blk_alloc ?_ _)); exact BK476.out) hb); replace BK477 := Aside0.mk (blk_below (g := gb477) (o := .cells #[.int .i64 a0_0, .slice A0_1 l0_1.length c0_1, .slice A0_2 l0_2.length c0_2, .slice A2 l2.length c2] 96 (0, 0)) (by (with_reducible repeat (first | refine blk_drewN ?_ _ | refine blk_drew ?_ | refine blk_alloc ?_ _)); refine blk_put (cs := #[.int .i64 a0_0, .slice A0_1 l0_1.length c0_1, .slice A0_2 l0_2.length c0_2, .slice none 0 0]) ?_ 3 _ rfl; (with_reducible repeat (first | refine blk_drewN ?_ _ | refine blk_drew ?_ | refine blk_alloc ?_ _)); refine blk_put (cs := #[.int .i64 a0_0, .slice A0_1 l0_1.length c0_1, .slice none 0 0, .slice none 0 0]) ?_ 2 _ rfl; (with_reducible repeat (first | refine blk_drewN ?_ _ | refine blk_drew ?_ | refine blk_alloc ?_ _)); refine blk_put (cs := #[.int .i64 a0_0, .slice none 0 0, .slice none 0 0, .slice none 0 0]) ?_ 1 _ rfl; (with_reducible repeat (first | refine blk_drewN ?_ _ | refine blk_drew ?_ | refine blk_alloc ?_ _)); refine blk_put (cs := #[.int .i64 0, .slice none 0 0, .slice none 0 0, .slice none 0 0]) ?_ 0 _ rfl; (with_reducible repeat (first | refine blk_drewN ?_ _ | refine blk_drew ?_ | refine blk_alloc ?_ _)); exact BK477.out) hb); replace HB := Aside0.mk (below_step bel hb); (try clear hb); (try clear hb2); (try clear hk); (try clear hi); have hcz23_0 := blkc BK477.out 0 (.int .i64 a0_0) rfl; have hcz23_1 := blkc BK477.out 1 (.slice A0_1 l0_1.length c0_1) rfl; have hcz23_2 := blkc BK477.out 2 (.slice A0_2 l0_2.length c0_2) rfl; have hcz23_3 := blkc BK477.out 3 (.slice A2 l2.length c2) rfl; have hfz23_0 := blk_frozen BK477.out 0; have hfz23_1 := blk_frozen BK477.out 1; have hfz23_2 := blk_frozen BK477.out 2; have hfz23_3 := blk_frozen BK477.out 3) | ((with_reducible refine gate_callee (f := 84) rfl ?_); refine goesL_ (some 19) rfl rfl Tryd.func84 (by kernel_rfl) rfl #[.agg #[.int .i64 a0_0, .slice A0_1 l0_1.length c0_1, .slice A0_2 l0_2.length c0_2, .slice A2 l2.length c2]] rfl mapz ?_; (with_reducible refine (feed_rule_kept.calls k a0_0 _ _ l0_1 _ _ l0_2 _ _ l2 t479 _ ?side1 ?side2 ?side3 ?side4 ?side5 ?side6 A6.out).mono ?_); (case side1 => exact cbz HR0_1); (case side2 => exact HC0_1.out); (case side3 => exact cbz HR0_2); (case side4 => exact HC0_2.out); (case side5 => exact cbz HR2); (case side6 => exact HC2.out); rintro e w24 ⟨rfl, hb⟩; refine ⟨_, rfl, ?_⟩; replace BK475 := Aside0.mk (blk_below (g := gb475) blkz hb); replace BK476 := Aside0.mk (blk_below (g := gb476) blkz hb); replace BK477 := Aside0.mk (blk_below (g := gb477) blkz hb); replace HB := Aside0.mk (below_step bel hb); (try clear hb); (try clear hb2); (try clear hk); (try clear hi); have hcz25_0 := blkc BK477.out 0 (.int .i64 a0_0) rfl; have hcz25_1 := blkc BK477.out 1 (.slice A0_1 l0_1.length c0_1) rfl; have hcz25_2 := blkc BK477.out 2 (.slice A0_2 l0_2.length c0_2) rfl; have hcz25_3 := blkc BK477.out 3 (.slice A2 l2.length c2) rfl; have hfz25_0 := blk_frozen BK477.out 0; have hfz25_1 := blk_frozen BK477.out 1; have hfz25_2 := blk_frozen BK477.out 2; have hfz25_3 := blk_frozen BK477.out 3) | ((with_reducible refine gate_callee (f := 52) rfl ?_); refine goesL_ (some 27) rfl rfl Tryd.func52 (by kernel_rfl) rfl #[.agg #[.int .i64 a0_0, .slice A0_1 l0_1.length c0_1, .slice A0_2 l0_2.length c0_2]] rfl mapz ?_; (with_reducible refine (feed_grid_all.calls a0_0 _ _ l0_1 _ _ l0_2 t480 _ ?side1 ?side2 ?side3 ?side4 A8.out).mono ?_); (case side1 => exact cbz HR0_1); (case side2 => exact HC0_1.out); (case side3 => exact cbz HR0_2); (case side4 => exact HC0_2.out); rintro e w26 ⟨rfl, hb⟩; refine ⟨_, rfl, ?_⟩; replace BK475 := Aside0.mk (blk_below (g := gb475) blkz hb); replace BK476 := Aside0.mk (blk_below (g := gb476) blkz hb); replace BK477 := Aside0.mk (blk_below (g := gb477) blkz hb); replace HB := Aside0.mk (below_step bel hb); (try clear hb); (try clear hb2); (try clear hk); (try clear hi)) | ((with_reducible refine gate_callee (f := 53) rfl ?_); refine goesL_ (some 29) rfl rfl Tryd.func53 (by kernel_rfl) rfl #[.int .i64 0, .int .i64 a1, .int .i64 (wrap64 (t480 - 1))] rfl mapz ?_; (with_reducible refine (feed_within.calls 0 a1 (wrap64 (t480 - 1)) true _ A9.out).mono ?_); rintro e w' ⟨rfl, ⟨nd, rfl⟩⟩; refine ⟨_, rfl, ?_⟩; (try (rw [drewN_self w26]; generalize hq_ : World.drewN w26 _ = w26; have n0_ : Aside0 (w26.heap[gb475]? = some (.cells #[.int .i64 a0_0, .slice A0_1 l0_1.length c0_1, .slice A0_2 l0_2.length c0_2] 25 (0, 0))) := ⟨by rw [← hq_]; exact blkz⟩; have n1_ : Aside0 (w26.heap[gb476]? = some (.cells #[.int .i64 0, .slice none 0 0, .slice none 0 0, .slice none 0 0] 96 (0, 0))) := ⟨by rw [← hq_]; exact blkz⟩; have n2_ : Aside0 (w26.heap[gb477]? = some (.cells #[.int .i64 a0_0, .slice A0_1 l0_1.length c0_1, .slice A0_2 l0_2.length c0_2, .slice A2 l2.length c2] 96 (0, 0))) := ⟨by rw [← hq_]; exact blkz⟩; have n3_ : Aside0 (Below w.heap.size w w26) := ⟨by rw [← hq_]; exact bel⟩; clear BK475 BK476 BK477 HB hq_; have BK475 := n0_; have BK476 := n1_; have BK477 := n2_; have HB := n3_; clear n0_ n1_ n2_ n3_)); have hcz27_0 := blkc BK477.out 0 (.int .i64 a0_0) rfl; have hcz27_1 := blkc BK477.out 1 (.slice A0_1 l0_1.length c0_1) rfl; have hcz27_2 := blkc BK477.out 2 (.slice A0_2 l0_2.length c0_2) rfl; have hcz27_3 := blkc BK477.out 3 (.slice A2 l2.length c2) rfl; have hfz27_0 := blk_frozen BK477.out 0; have hfz27_1 := blk_frozen BK477.out 1; have hfz27_2 := blk_frozen BK477.out 2; have hfz27_3 := blk_frozen BK477.out 3) | (go_at_call 85; (with_reducible refine (feed_rule_keeps.calls k a0_0 _ _ l0_1 _ _ l0_2 _ _ l2 a1 true _ ?side1 ?side2 ?side3 ?side4 ?side5 ?side6 ?sideT A11.out).mono ?_); (case sideT => first | exact HT.out | exact Tab.Tabs.below HT.out bel | (with_reducible repeat (first | exact HT.out | apply Tab.Tabs.alloc | apply Tab.Tabs.drewN | apply Tab.Tabs.drew))); (case side1 => exact cbz HR0_1); (case side2 => exact HC0_1.out); (case side3 => exact cbz HR0_2); (case side4 => exact HC0_2.out); (case side5 => exact cbz HR2); (case side6 => exact HC2.out); rintro e w28 ⟨rfl, hb⟩; replace BK475 := Aside0.mk (blk_below (g := gb475) blkz hb); replace BK476 := Aside0.mk (blk_below (g := gb476) blkz hb); replace BK477 := Aside0.mk (blk_below (g := gb477) blkz hb); replace HB := Aside0.mk (below_step bel hb); (try clear hb); (try clear hb2); (try clear hk); (try clear hi); have hcz29_0 := blkc BK477.out 0 (.int .i64 a0_0) rfl; have hcz29_1 := blkc BK477.out 1 (.slice A0_1 l0_1.length c0_1) rfl; have hcz29_2 := blkc BK477.out 2 (.slice A0_2 l0_2.length c0_2) rfl; have hcz29_3 := blkc BK477.out 3 (.slice A2 l2.length c2) rfl; have hfz29_0 := blk_frozen BK477.out 0; have hfz29_1 := blk_frozen BK477.out 1; have hfz29_2 := blk_frozen BK477.out 2; have hfz29_3 := blk_frozen BK477.out 3; have hcz30_0 := blkc BK476.out 0 (.int .i64 0) rfl; have hcz30_1 := blkc BK476.out 1 (.slice none 0 0) rfl; have hcz30_2 := blkc BK476.out 2 (.slice none 0 0) rfl; have hcz30_3 := blkc BK476.out 3 (.slice none 0 0) rfl; have hfz30_0 := blk_frozen BK476.out 0; have hfz30_1 := blk_frozen BK476.out 1; have hfz30_2 := blk_frozen BK476.out 2; have hfz30_3 := blk_frozen BK476.out 3))
     refine bodyPost_ret (results_ct rfl _ _ gb476 96 #[.int .i64 a0_0, .slice A0_1 l0_1.length c0_1, .slice A0_2 l0_2.length c0_2, .slice A2 l2.length c2] (0, 0) _ rfl (by (with_reducible repeat (first | refine blk_drewN ?_ _ | refine blk_drew ?_ | refine blk_alloc ?_ _)); refine blk_put (cs := #[.int .i64 a0_0, .slice A0_1 l0_1.length c0_1, .slice A0_2 l0_2.length c0_2, .slice none 0 0]) ?_ 3 _ rfl; (with_reducible repeat (first | refine blk_drewN ?_ _ | refine blk_drew ?_ | refine blk_alloc ?_ _)); refine blk_put (cs := #[.int .i64 a0_0, .slice A0_1 l0_1.length c0_1, .slice none 0 0, .slice none 0 0]) ?_ 2 _ rfl; (with_reducible repeat (first | refine blk_drewN ?_ _ | refine blk_drew ?_ | refine blk_alloc ?_ _)); refine blk_put (cs := #[.int .i64 a0_0, .slice none 0 0, .slice none 0 0, .slice none 0 0]) ?_ 1 _ rfl; (with_reducible repeat (first | refine blk_drewN ?_ _ | refine blk_drew ?_ | refine blk_alloc ?_ _)); refine blk_put (cs := #[.int .i64 0, .slice none 0 0, .slice none 0 0, .slice none 0 0]) ?_ 0 _ rfl; (with_reducible repeat (first | refine blk_drewN ?_ _ | refine blk_drew ?_ | refine blk_alloc ?_ _)); exact BK476.out) Tryd.underlying96 rfl (by kernel_rfl)) rfl ?_
     exact ⟨ezz, bel⟩
    ·
     replace c12 := Bool.eq_false_iff.mpr c12
     subst c12
     have H1 : (some (a0_0, 51)) = some (r1, r2) := by rw [if_neg (show ¬ (false = true) by decide)] at H; exact H
     clear H
     have H := H1
     clear H1
     simp only [Option.some.injEq, Prod.mk.injEq] at H
     obtain ⟨rfl, rfl⟩ := H
     go_enter Tryd.func69, Tryd.ntmps69
     go_wp2_with (first | ((with_reducible refine gate_dst (N := 3) rfl ?_); refine box_event ?hg (N := 3) ?hd (cs := #[.int .i64 a0_0, .slice A0_1 l0_1.length c0_1, .slice A0_2 l0_2.length c0_2]) (t := 25) ?hr ?_; (case hd => rfl); (case hg => rfl); (case hr => first | (go_simp; done) | (go_simp; rfl)); intro gb475 hg w31 hbox hb; have BK475 := Aside0.mk (hbox); have GW475 := bsz (w := w) hg; have GE475 := GW475; replace HB := Aside0.mk (below_step bel hb); clear hb hbox hg) | ((with_reducible refine gate_dst (N := 6) rfl ?_); refine box_event ?hg (N := 6) ?hd (cs := #[.int .i64 0, .slice none 0 0, .slice none 0 0, .slice none 0 0]) (t := 96) ?hr ?_; (case hd => rfl); (case hg => rfl); (case hr => first | (go_simp; done) | (go_simp; rfl)); intro gb476 hg w32 hbox hb; have BK476 := Aside0.mk (hbox); have GW476 := bsz (w := w) hg; have GE476 := GW476; have NB475_476 := neL (g := gb475) hg; have NB476_475 := neR (g := gb475) hg; replace BK475 := Aside0.mk (blk_below (g := gb475) blkz hb); replace HB := Aside0.mk (below_step bel hb); clear hb hbox hg; have hnb33 := NB475_476.out; have hnc33 := NB476_475.out; have hcz34_0 := blkc BK475.out 0 (.int .i64 a0_0) rfl; have hcz34_1 := blkc BK475.out 1 (.slice A0_1 l0_1.length c0_1) rfl; have hcz34_2 := blkc BK475.out 2 (.slice A0_2 l0_2.length c0_2) rfl) | ((with_reducible refine gate_dst (N := 8) rfl ?_); refine box_event ?hg (N := 8) ?hd (cs := #[.int .i64 0, .slice none 0 0, .slice none 0 0, .slice none 0 0]) (t := 96) ?hr ?_; (case hd => rfl); (case hg => rfl); (case hr => first | (go_simp; done) | (go_simp; rfl)); intro gb477 hg w35 hbox hb; have BK477 := Aside0.mk (hbox); have GW477 := bsz (w := w) hg; have GE477 := GW477; have NB475_477 := neL (g := gb475) hg; have NB477_475 := neR (g := gb475) hg; have NB476_477 := neL (g := gb476) hg; have NB477_476 := neR (g := gb476) hg; replace BK475 := Aside0.mk (blk_below (g := gb475) blkz hb); replace BK476 := Aside0.mk (blk_below (g := gb476) blkz hb); replace HB := Aside0.mk (below_step bel hb); clear hb hbox hg; have hnb36 := NB477_475.out; have hnc36 := NB475_477.out; have hnb37 := NB477_476.out; have hnc37 := NB476_477.out; have hcz38_0 := blkc BK477.out 0 (.int .i64 0) rfl; have hcz38_1 := blkc BK477.out 1 (.slice none 0 0) rfl; have hcz38_2 := blkc BK477.out 2 (.slice none 0 0) rfl; have hcz38_3 := blkc BK477.out 3 (.slice none 0 0) rfl; have hfz38_0 := blk_frozen BK477.out 0; have hfz38_1 := blk_frozen BK477.out 1; have hfz38_2 := blk_frozen BK477.out 2; have hfz38_3 := blk_frozen BK477.out 3; have hcz39_0 := blkc BK475.out 0 (.int .i64 a0_0) rfl; have hcz39_1 := blkc BK475.out 1 (.slice A0_1 l0_1.length c0_1) rfl; have hcz39_2 := blkc BK475.out 2 (.slice A0_2 l0_2.length c0_2) rfl) | ((with_reducible refine gate_callee (f := 19) rfl ?_); refine goesL_ (some 15) rfl rfl Tryd.func19 (by kernel_rfl) rfl #[.agg #[.int .i64 a0_0, .slice A0_1 l0_1.length c0_1, .slice A0_2 l0_2.length c0_2]] rfl mapz ?_; (with_reducible refine (feed_Valid.calls a0_0 _ _ l0_1 _ _ l0_2 true _ ?side1 ?side2 ?side3 ?side4 A4.out).mono ?_); (case side1 => exact cbz HR0_1); (case side2 => exact HC0_1.out); (case side3 => exact cbz HR0_2); (case side4 => exact HC0_2.out); rintro e w40 ⟨rfl, hb⟩; refine ⟨_, rfl, ?_⟩; replace BK475 := Aside0.mk (blk_below (g := gb475) (o := .cells #[.int .i64 a0_0, .slice A0_1 l0_1.length c0_1, .slice A0_2 l0_2.length c0_2] 25 (0, 0)) (by (with_reducible repeat (first | refine blk_drewN ?_ _ | refine blk_drew ?_ | refine blk_alloc ?_ _)); refine blk_far ?_ NB475_477.out _; (with_reducible repeat (first | refine blk_drewN ?_ _ | refine blk_drew ?_ | refine blk_alloc ?_ _)); refine blk_far ?_ NB475_477.out _; (with_reducible repeat (first | refine blk_drewN ?_ _ | refine blk_drew ?_ | refine blk_alloc ?_ _)); refine blk_far ?_ NB475_477.out _; (with_reducible repeat (first | refine blk_drewN ?_ _ | refine blk_drew ?_ | refine blk_alloc ?_ _)); refine blk_far ?_ NB475_477.out _; (with_reducible repeat (first | refine blk_drewN ?_ _ | refine blk_drew ?_ | refine blk_alloc ?_ _)); exact BK475.out) hb); replace BK476 := Aside0.mk (blk_below (g := gb476) (o := .cells #[.int .i64 0, .slice none 0 0, .slice none 0 0, .slice none 0 0] 96 (0, 0)) (by (with_reducible repeat (first | refine blk_drewN ?_ _ | refine blk_drew ?_ | refine blk_alloc ?_ _)); refine blk_far ?_ NB476_477.out _; (with_reducible repeat (first | refine blk_drewN ?_ _ | refine blk_drew ?_ | refine blk_alloc ?_ _)); refine blk_far ?_ NB476_477.out _; (with_reducible repeat (first | refine blk_drewN ?_ _ | refine blk_drew ?_ | refine blk_alloc ?_ _)); refine blk_far ?_ NB476_477.out _; (with_reducible repeat (first | refine blk_drewN ?_ _ | refine blk_drew ?_ | refine blk_alloc ?_ _)); refine blk_far ?_ NB476_477.out _; (with_reducible repeat (first | refine blk_drewN ?_ _ | refine blk_drew ?_ | refine blk_alloc ?_ _)); exact BK476.out) hb); replace BK477 := Aside0.mk (blk_below (g := gb477) (o := .cells #[.int .i64 a0_0, .slice A0_1 l0_1.length c0_1, .slice A0_2 l0_2.length c0_2, .slice A2 l2.length c2] 96 (0, 0)) (by (with_reducible repeat (first | refine blk_drewN ?_ _ | refine blk_drew ?_ | refine blk_alloc ?_ _)); refine blk_put (cs := #[.int .i64 a0_0, .slice A0_1 l0_1.length c0_1, .slice A0_2 l0_2.length c0_2, .slice none 0 0]) ?_ 3 _ rfl; (with_reducible repeat (first | refine blk_drewN ?_ _ | refine blk_drew ?_ | refine blk_alloc ?_ _)); refine blk_put (cs := #[.int .i64 a0_0, .slice A0_1 l0_1.length c0_1, .slice none 0 0, .slice none 0 0]) ?_ 2 _ rfl; (with_reducible repeat (first | refine blk_drewN ?_ _ | refine blk_drew ?_ | refine blk_alloc ?_ _)); refine blk_put (cs := #[.int .i64 a0_0, .slice none 0 0, .slice none 0 0, .slice none 0 0]) ?_ 1 _ rfl; (with_reducible repeat (first | refine blk_drewN ?_ _ | refine blk_drew ?_ | refine blk_alloc ?_ _)); refine blk_put (cs := #[.int .i64 0, .slice none 0 0, .slice none 0 0, .slice none 0 0]) ?_ 0 _ rfl; (with_reducible repeat (first | refine blk_drewN ?_ _ | refine blk_drew ?_ | refine blk_alloc ?_ _)); exact BK477.out) hb); replace HB := Aside0.mk (below_step bel hb); (try clear hb); (try clear hb2); (try clear hk); (try clear hi); have hcz41_0 := blkc BK477.out 0 (.int .i64 a0_0) rfl; have hcz41_1 := blkc BK477.out 1 (.slice A0_1 l0_1.length c0_1) rfl; have hcz41_2 := blkc BK477.out 2 (.slice A0_2 l0_2.length c0_2) rfl; have hcz41_3 := blkc BK477.out 3 (.slice A2 l2.length c2) rfl; have hfz41_0 := blk_frozen BK477.out 0; have hfz41_1 := blk_frozen BK477.out 1; have hfz41_2 := blk_frozen BK477.out 2; have hfz41_3 := blk_frozen BK477.out 3) | ((with_reducible refine gate_callee (f := 84) rfl ?_); refine goesL_ (some 19) rfl rfl Tryd.func84 (by kernel_rfl) rfl #[.agg #[.int .i64 a0_0, .slice A0_1 l0_1.length c0_1, .slice A0_2 l0_2.length c0_2, .slice A2 l2.length c2]] rfl mapz ?_; (with_reducible refine (feed_rule_kept.calls k a0_0 _ _ l0_1 _ _ l0_2 _ _ l2 t479 _ ?side1 ?side2 ?side3 ?side4 ?side5 ?side6 A6.out).mono ?_); (case side1 => exact cbz HR0_1); (case side2 => exact HC0_1.out); (case side3 => exact cbz HR0_2); (case side4 => exact HC0_2.out); (case side5 => exact cbz HR2); (case side6 => exact HC2.out); rintro e w42 ⟨rfl, hb⟩; refine ⟨_, rfl, ?_⟩; replace BK475 := Aside0.mk (blk_below (g := gb475) blkz hb); replace BK476 := Aside0.mk (blk_below (g := gb476) blkz hb); replace BK477 := Aside0.mk (blk_below (g := gb477) blkz hb); replace HB := Aside0.mk (below_step bel hb); (try clear hb); (try clear hb2); (try clear hk); (try clear hi); have hcz43_0 := blkc BK477.out 0 (.int .i64 a0_0) rfl; have hcz43_1 := blkc BK477.out 1 (.slice A0_1 l0_1.length c0_1) rfl; have hcz43_2 := blkc BK477.out 2 (.slice A0_2 l0_2.length c0_2) rfl; have hcz43_3 := blkc BK477.out 3 (.slice A2 l2.length c2) rfl; have hfz43_0 := blk_frozen BK477.out 0; have hfz43_1 := blk_frozen BK477.out 1; have hfz43_2 := blk_frozen BK477.out 2; have hfz43_3 := blk_frozen BK477.out 3) | ((with_reducible refine gate_callee (f := 52) rfl ?_); refine goesL_ (some 27) rfl rfl Tryd.func52 (by kernel_rfl) rfl #[.agg #[.int .i64 a0_0, .slice A0_1 l0_1.length c0_1, .slice A0_2 l0_2.length c0_2]] rfl mapz ?_; (with_reducible refine (feed_grid_all.calls a0_0 _ _ l0_1 _ _ l0_2 t480 _ ?side1 ?side2 ?side3 ?side4 A8.out).mono ?_); (case side1 => exact cbz HR0_1); (case side2 => exact HC0_1.out); (case side3 => exact cbz HR0_2); (case side4 => exact HC0_2.out); rintro e w44 ⟨rfl, hb⟩; refine ⟨_, rfl, ?_⟩; replace BK475 := Aside0.mk (blk_below (g := gb475) blkz hb); replace BK476 := Aside0.mk (blk_below (g := gb476) blkz hb); replace BK477 := Aside0.mk (blk_below (g := gb477) blkz hb); replace HB := Aside0.mk (below_step bel hb); (try clear hb); (try clear hb2); (try clear hk); (try clear hi)) | ((with_reducible refine gate_callee (f := 53) rfl ?_); refine goesL_ (some 29) rfl rfl Tryd.func53 (by kernel_rfl) rfl #[.int .i64 0, .int .i64 a1, .int .i64 (wrap64 (t480 - 1))] rfl mapz ?_; (with_reducible refine (feed_within.calls 0 a1 (wrap64 (t480 - 1)) true _ A9.out).mono ?_); rintro e w' ⟨rfl, ⟨nd, rfl⟩⟩; refine ⟨_, rfl, ?_⟩; (try (rw [drewN_self w44]; generalize hq_ : World.drewN w44 _ = w44; have n0_ : Aside0 (w44.heap[gb475]? = some (.cells #[.int .i64 a0_0, .slice A0_1 l0_1.length c0_1, .slice A0_2 l0_2.length c0_2] 25 (0, 0))) := ⟨by rw [← hq_]; exact blkz⟩; have n1_ : Aside0 (w44.heap[gb476]? = some (.cells #[.int .i64 0, .slice none 0 0, .slice none 0 0, .slice none 0 0] 96 (0, 0))) := ⟨by rw [← hq_]; exact blkz⟩; have n2_ : Aside0 (w44.heap[gb477]? = some (.cells #[.int .i64 a0_0, .slice A0_1 l0_1.length c0_1, .slice A0_2 l0_2.length c0_2, .slice A2 l2.length c2] 96 (0, 0))) := ⟨by rw [← hq_]; exact blkz⟩; have n3_ : Aside0 (Below w.heap.size w w44) := ⟨by rw [← hq_]; exact bel⟩; clear BK475 BK476 BK477 HB hq_; have BK475 := n0_; have BK476 := n1_; have BK477 := n2_; have HB := n3_; clear n0_ n1_ n2_ n3_)); have hcz45_0 := blkc BK477.out 0 (.int .i64 a0_0) rfl; have hcz45_1 := blkc BK477.out 1 (.slice A0_1 l0_1.length c0_1) rfl; have hcz45_2 := blkc BK477.out 2 (.slice A0_2 l0_2.length c0_2) rfl; have hcz45_3 := blkc BK477.out 3 (.slice A2 l2.length c2) rfl; have hfz45_0 := blk_frozen BK477.out 0; have hfz45_1 := blk_frozen BK477.out 1; have hfz45_2 := blk_frozen BK477.out 2; have hfz45_3 := blk_frozen BK477.out 3) | (go_at_call 85; (with_reducible refine (feed_rule_keeps.calls k a0_0 _ _ l0_1 _ _ l0_2 _ _ l2 a1 false _ ?side1 ?side2 ?side3 ?side4 ?side5 ?side6 ?sideT A11.out).mono ?_); (case sideT => first | exact HT.out | exact Tab.Tabs.below HT.out bel | (with_reducible repeat (first | exact HT.out | apply Tab.Tabs.alloc | apply Tab.Tabs.drewN | apply Tab.Tabs.drew))); (case side1 => exact cbz HR0_1); (case side2 => exact HC0_1.out); (case side3 => exact cbz HR0_2); (case side4 => exact HC0_2.out); (case side5 => exact cbz HR2); (case side6 => exact HC2.out); rintro e w46 ⟨rfl, hb⟩; replace BK475 := Aside0.mk (blk_below (g := gb475) blkz hb); replace BK476 := Aside0.mk (blk_below (g := gb476) blkz hb); replace BK477 := Aside0.mk (blk_below (g := gb477) blkz hb); replace HB := Aside0.mk (below_step bel hb); (try clear hb); (try clear hb2); (try clear hk); (try clear hi); have hcz47_0 := blkc BK477.out 0 (.int .i64 a0_0) rfl; have hcz47_1 := blkc BK477.out 1 (.slice A0_1 l0_1.length c0_1) rfl; have hcz47_2 := blkc BK477.out 2 (.slice A0_2 l0_2.length c0_2) rfl; have hcz47_3 := blkc BK477.out 3 (.slice A2 l2.length c2) rfl; have hfz47_0 := blk_frozen BK477.out 0; have hfz47_1 := blk_frozen BK477.out 1; have hfz47_2 := blk_frozen BK477.out 2; have hfz47_3 := blk_frozen BK477.out 3; have hcz48_0 := blkc BK476.out 0 (.int .i64 0) rfl; have hcz48_1 := blkc BK476.out 1 (.slice none 0 0) rfl; have hcz48_2 := blkc BK476.out 2 (.slice none 0 0) rfl; have hcz48_3 := blkc BK476.out 3 (.slice none 0 0) rfl; have hfz48_0 := blk_frozen BK476.out 0; have hfz48_1 := blk_frozen BK476.out 1; have hfz48_2 := blk_frozen BK476.out 2; have hfz48_3 := blk_frozen BK476.out 3))
     refine bodyPost_ret (results_ct rfl _ _ gb476 96 #[.int .i64 a0_0, .slice A0_1 l0_1.length c0_1, .slice A0_2 l0_2.length c0_2, .slice A2 l2.length c2] (0, 0) _ rfl (by (with_reducible repeat (first | refine blk_drewN ?_ _ | refine blk_drew ?_ | refine blk_alloc ?_ _)); refine blk_put (cs := #[.int .i64 a0_0, .slice A0_1 l0_1.length c0_1, .slice A0_2 l0_2.length c0_2, .slice none 0 0]) ?_ 3 _ rfl; (with_reducible repeat (first | refine blk_drewN ?_ _ | refine blk_drew ?_ | refine blk_alloc ?_ _)); refine blk_put (cs := #[.int .i64 a0_0, .slice A0_1 l0_1.length c0_1, .slice none 0 0, .slice none 0 0]) ?_ 2 _ rfl; (with_reducible repeat (first | refine blk_drewN ?_ _ | refine blk_drew ?_ | refine blk_alloc ?_ _)); refine blk_put (cs := #[.int .i64 a0_0, .slice none 0 0, .slice none 0 0, .slice none 0 0]) ?_ 1 _ rfl; (with_reducible repeat (first | refine blk_drewN ?_ _ | refine blk_drew ?_ | refine blk_alloc ?_ _)); refine blk_put (cs := #[.int .i64 0, .slice none 0 0, .slice none 0 0, .slice none 0 0]) ?_ 0 _ rfl; (with_reducible repeat (first | refine blk_drewN ?_ _ | refine blk_drew ?_ | refine blk_alloc ?_ _)); exact BK476.out) Tryd.underlying96 rfl (by kernel_rfl)) rfl ?_
     exact ⟨ezz, bel⟩
   ·
    replace c10 := Bool.eq_false_iff.mpr c10
    subst c10
    have H1 : (some (a0_0, 51)) = some (r1, r2) := by rw [if_neg (show ¬ (false = true) by decide)] at H; exact H
    clear H
    have H := H1
    clear H1
    simp only [Option.some.injEq, Prod.mk.injEq] at H
    obtain ⟨rfl, rfl⟩ := H
    go_enter Tryd.func69, Tryd.ntmps69
    go_wp2_with (first | ((with_reducible refine gate_dst (N := 3) rfl ?_); refine box_event ?hg (N := 3) ?hd (cs := #[.int .i64 a0_0, .slice A0_1 l0_1.length c0_1, .slice A0_2 l0_2.length c0_2]) (t := 25) ?hr ?_; (case hd => rfl); (case hg => rfl); (case hr => first | (go_simp; done) | (go_simp; rfl)); intro gb475 hg w49 hbox hb; have BK475 := Aside0.mk (hbox); have GW475 := bsz (w := w) hg; have GE475 := GW475; replace HB := Aside0.mk (below_step bel hb); clear hb hbox hg) | ((with_reducible refine gate_dst (N := 6) rfl ?_); refine box_event ?hg (N := 6) ?hd (cs := #[.int .i64 0, .slice none 0 0, .slice none 0 0, .slice none 0 0]) (t := 96) ?hr ?_; (case hd => rfl); (case hg => rfl); (case hr => first | (go_simp; done) | (go_simp; rfl)); intro gb476 hg w50 hbox hb; have BK476 := Aside0.mk (hbox); have GW476 := bsz (w := w) hg; have GE476 := GW476; have NB475_476 := neL (g := gb475) hg; have NB476_475 := neR (g := gb475) hg; replace BK475 := Aside0.mk (blk_below (g := gb475) blkz hb); replace HB := Aside0.mk (below_step bel hb); clear hb hbox hg; have hnb51 := NB475_476.out; have hnc51 := NB476_475.out; have hcz52_0 := blkc BK475.out 0 (.int .i64 a0_0) rfl; have hcz52_1 := blkc BK475.out 1 (.slice A0_1 l0_1.length c0_1) rfl; have hcz52_2 := blkc BK475.out 2 (.slice A0_2 l0_2.length c0_2) rfl) | ((with_reducible refine gate_dst (N := 8) rfl ?_); refine box_event ?hg (N := 8) ?hd (cs := #[.int .i64 0, .slice none 0 0, .slice none 0 0, .slice none 0 0]) (t := 96) ?hr ?_; (case hd => rfl); (case hg => rfl); (case hr => first | (go_simp; done) | (go_simp; rfl)); intro gb477 hg w53 hbox hb; have BK477 := Aside0.mk (hbox); have GW477 := bsz (w := w) hg; have GE477 := GW477; have NB475_477 := neL (g := gb475) hg; have NB477_475 := neR (g := gb475) hg; have NB476_477 := neL (g := gb476) hg; have NB477_476 := neR (g := gb476) hg; replace BK475 := Aside0.mk (blk_below (g := gb475) blkz hb); replace BK476 := Aside0.mk (blk_below (g := gb476) blkz hb); replace HB := Aside0.mk (below_step bel hb); clear hb hbox hg; have hnb54 := NB477_475.out; have hnc54 := NB475_477.out; have hnb55 := NB477_476.out; have hnc55 := NB476_477.out; have hcz56_0 := blkc BK477.out 0 (.int .i64 0) rfl; have hcz56_1 := blkc BK477.out 1 (.slice none 0 0) rfl; have hcz56_2 := blkc BK477.out 2 (.slice none 0 0) rfl; have hcz56_3 := blkc BK477.out 3 (.slice none 0 0) rfl; have hfz56_0 := blk_frozen BK477.out 0; have hfz56_1 := blk_frozen BK477.out 1; have hfz56_2 := blk_frozen BK477.out 2; have hfz56_3 := blk_frozen BK477.out 3; have hcz57_0 := blkc BK475.out 0 (.int .i64 a0_0) rfl; have hcz57_1 := blkc BK475.out 1 (.slice A0_1 l0_1.length c0_1) rfl; have hcz57_2 := blkc BK475.out 2 (.slice A0_2 l0_2.length c0_2) rfl) | ((with_reducible refine gate_callee (f := 19) rfl ?_); refine goesL_ (some 15) rfl rfl Tryd.func19 (by kernel_rfl) rfl #[.agg #[.int .i64 a0_0, .slice A0_1 l0_1.length c0_1, .slice A0_2 l0_2.length c0_2]] rfl mapz ?_; (with_reducible refine (feed_Valid.calls a0_0 _ _ l0_1 _ _ l0_2 true _ ?side1 ?side2 ?side3 ?side4 A4.out).mono ?_); (case side1 => exact cbz HR0_1); (case side2 => exact HC0_1.out); (case side3 => exact cbz HR0_2); (case side4 => exact HC0_2.out); rintro e w58 ⟨rfl, hb⟩; refine ⟨_, rfl, ?_⟩; replace BK475 := Aside0.mk (blk_below (g := gb475) (o := .cells #[.int .i64 a0_0, .slice A0_1 l0_1.length c0_1, .slice A0_2 l0_2.length c0_2] 25 (0, 0)) (by (with_reducible repeat (first | refine blk_drewN ?_ _ | refine blk_drew ?_ | refine blk_alloc ?_ _)); refine blk_far ?_ NB475_477.out _; (with_reducible repeat (first | refine blk_drewN ?_ _ | refine blk_drew ?_ | refine blk_alloc ?_ _)); refine blk_far ?_ NB475_477.out _; (with_reducible repeat (first | refine blk_drewN ?_ _ | refine blk_drew ?_ | refine blk_alloc ?_ _)); refine blk_far ?_ NB475_477.out _; (with_reducible repeat (first | refine blk_drewN ?_ _ | refine blk_drew ?_ | refine blk_alloc ?_ _)); refine blk_far ?_ NB475_477.out _; (with_reducible repeat (first | refine blk_drewN ?_ _ | refine blk_drew ?_ | refine blk_alloc ?_ _)); exact BK475.out) hb); replace BK476 := Aside0.mk (blk_below (g := gb476) (o := .cells #[.int .i64 0, .slice none 0 0, .slice none 0 0, .slice none 0 0] 96 (0, 0)) (by (with_reducible repeat (first | refine blk_drewN ?_ _ | refine blk_drew ?_ | refine blk_alloc ?_ _)); refine blk_far ?_ NB476_477.out _; (with_reducible repeat (first | refine blk_drewN ?_ _ | refine blk_drew ?_ | refine blk_alloc ?_ _)); refine blk_far ?_ NB476_477.out _; (with_reducible repeat (first | refine blk_drewN ?_ _ | refine blk_drew ?_ | refine blk_alloc ?_ _)); refine blk_far ?_ NB476_477.out _; (with_reducible repeat (first | refine blk_drewN ?_ _ | refine blk_drew ?_ | refine blk_alloc ?_ _)); refine blk_far ?_ NB476_477.out _; (with_reducible repeat (first | refine blk_drewN ?_ _ | refine blk_drew ?_ | refine blk_alloc ?_ _)); exact BK476.out) hb); replace BK477 := Aside0.mk (blk_below (g := gb477) (o := .cells #[.int .i64 a0_0, .slice A0_1 l0_1.length c0_1, .slice A0_2 l0_2.length c0_2, .slice A2 l2.length c2] 96 (0, 0)) (by (with_reducible repeat (first | refine blk_drewN ?_ _ | refine blk_drew ?_ | refine blk_alloc ?_ _)); refine blk_put (cs := #[.int .i64 a0_0, .slice A0_1 l0_1.length c0_1, .slice A0_2 l0_2.length c0_2, .slice none 0 0]) ?_ 3 _ rfl; (with_reducible repeat (first | refine blk_drewN ?_ _ | refine blk_drew ?_ | refine blk_alloc ?_ _)); refine blk_put (cs := #[.int .i64 a0_0, .slice A0_1 l0_1.length c0_1, .slice none 0 0, .slice none 0 0]) ?_ 2 _ rfl; (with_reducible repeat (first | refine blk_drewN ?_ _ | refine blk_drew ?_ | refine blk_alloc ?_ _)); refine blk_put (cs := #[.int .i64 a0_0, .slice none 0 0, .slice none 0 0, .slice none 0 0]) ?_ 1 _ rfl; (with_reducible repeat (first | refine blk_drewN ?_ _ | refine blk_drew ?_ | refine blk_alloc ?_ _)); refine blk_put (cs := #[.int .i64 0, .slice none 0 0, .slice none 0 0, .slice none 0 0]) ?_ 0 _ rfl; (with_reducible repeat (first | refine blk_drewN ?_ _ | refine blk_drew ?_ | refine blk_alloc ?_ _)); exact BK477.out) hb); replace HB := Aside0.mk (below_step bel hb); (try clear hb); (try clear hb2); (try clear hk); (try clear hi); have hcz59_0 := blkc BK477.out 0 (.int .i64 a0_0) rfl; have hcz59_1 := blkc BK477.out 1 (.slice A0_1 l0_1.length c0_1) rfl; have hcz59_2 := blkc BK477.out 2 (.slice A0_2 l0_2.length c0_2) rfl; have hcz59_3 := blkc BK477.out 3 (.slice A2 l2.length c2) rfl; have hfz59_0 := blk_frozen BK477.out 0; have hfz59_1 := blk_frozen BK477.out 1; have hfz59_2 := blk_frozen BK477.out 2; have hfz59_3 := blk_frozen BK477.out 3) | ((with_reducible refine gate_callee (f := 84) rfl ?_); refine goesL_ (some 19) rfl rfl Tryd.func84 (by kernel_rfl) rfl #[.agg #[.int .i64 a0_0, .slice A0_1 l0_1.length c0_1, .slice A0_2 l0_2.length c0_2, .slice A2 l2.length c2]] rfl mapz ?_; (with_reducible refine (feed_rule_kept.calls k a0_0 _ _ l0_1 _ _ l0_2 _ _ l2 t479 _ ?side1 ?side2 ?side3 ?side4 ?side5 ?side6 A6.out).mono ?_); (case side1 => exact cbz HR0_1); (case side2 => exact HC0_1.out); (case side3 => exact cbz HR0_2); (case side4 => exact HC0_2.out); (case side5 => exact cbz HR2); (case side6 => exact HC2.out); rintro e w60 ⟨rfl, hb⟩; refine ⟨_, rfl, ?_⟩; replace BK475 := Aside0.mk (blk_below (g := gb475) blkz hb); replace BK476 := Aside0.mk (blk_below (g := gb476) blkz hb); replace BK477 := Aside0.mk (blk_below (g := gb477) blkz hb); replace HB := Aside0.mk (below_step bel hb); (try clear hb); (try clear hb2); (try clear hk); (try clear hi); have hcz61_0 := blkc BK477.out 0 (.int .i64 a0_0) rfl; have hcz61_1 := blkc BK477.out 1 (.slice A0_1 l0_1.length c0_1) rfl; have hcz61_2 := blkc BK477.out 2 (.slice A0_2 l0_2.length c0_2) rfl; have hcz61_3 := blkc BK477.out 3 (.slice A2 l2.length c2) rfl; have hfz61_0 := blk_frozen BK477.out 0; have hfz61_1 := blk_frozen BK477.out 1; have hfz61_2 := blk_frozen BK477.out 2; have hfz61_3 := blk_frozen BK477.out 3) | ((with_reducible refine gate_callee (f := 52) rfl ?_); refine goesL_ (some 27) rfl rfl Tryd.func52 (by kernel_rfl) rfl #[.agg #[.int .i64 a0_0, .slice A0_1 l0_1.length c0_1, .slice A0_2 l0_2.length c0_2]] rfl mapz ?_; (with_reducible refine (feed_grid_all.calls a0_0 _ _ l0_1 _ _ l0_2 t480 _ ?side1 ?side2 ?side3 ?side4 A8.out).mono ?_); (case side1 => exact cbz HR0_1); (case side2 => exact HC0_1.out); (case side3 => exact cbz HR0_2); (case side4 => exact HC0_2.out); rintro e w62 ⟨rfl, hb⟩; refine ⟨_, rfl, ?_⟩; replace BK475 := Aside0.mk (blk_below (g := gb475) blkz hb); replace BK476 := Aside0.mk (blk_below (g := gb476) blkz hb); replace BK477 := Aside0.mk (blk_below (g := gb477) blkz hb); replace HB := Aside0.mk (below_step bel hb); (try clear hb); (try clear hb2); (try clear hk); (try clear hi)) | ((with_reducible refine gate_callee (f := 53) rfl ?_); refine goesL_ (some 29) rfl rfl Tryd.func53 (by kernel_rfl) rfl #[.int .i64 0, .int .i64 a1, .int .i64 (wrap64 (t480 - 1))] rfl mapz ?_; (with_reducible refine (feed_within.calls 0 a1 (wrap64 (t480 - 1)) false _ A9.out).mono ?_); rintro e w' ⟨rfl, ⟨nd, rfl⟩⟩; refine ⟨_, rfl, ?_⟩; (try (rw [drewN_self w62]; generalize hq_ : World.drewN w62 _ = w62; have n0_ : Aside0 (w62.heap[gb475]? = some (.cells #[.int .i64 a0_0, .slice A0_1 l0_1.length c0_1, .slice A0_2 l0_2.length c0_2] 25 (0, 0))) := ⟨by rw [← hq_]; exact blkz⟩; have n1_ : Aside0 (w62.heap[gb476]? = some (.cells #[.int .i64 0, .slice none 0 0, .slice none 0 0, .slice none 0 0] 96 (0, 0))) := ⟨by rw [← hq_]; exact blkz⟩; have n2_ : Aside0 (w62.heap[gb477]? = some (.cells #[.int .i64 a0_0, .slice A0_1 l0_1.length c0_1, .slice A0_2 l0_2.length c0_2, .slice A2 l2.length c2] 96 (0, 0))) := ⟨by rw [← hq_]; exact blkz⟩; have n3_ : Aside0 (Below w.heap.size w w62) := ⟨by rw [← hq_]; exact bel⟩; clear BK475 BK476 BK477 HB hq_; have BK475 := n0_; have BK476 := n1_; have BK477 := n2_; have HB := n3_; clear n0_ n1_ n2_ n3_)); have hcz63_0 := blkc BK477.out 0 (.int .i64 a0_0) rfl; have hcz63_1 := blkc BK477.out 1 (.slice A0_1 l0_1.length c0_1) rfl; have hcz63_2 := blkc BK477.out 2 (.slice A0_2 l0_2.length c0_2) rfl; have hcz63_3 := blkc BK477.out 3 (.slice A2 l2.length c2) rfl; have hfz63_0 := blk_frozen BK477.out 0; have hfz63_1 := blk_frozen BK477.out 1; have hfz63_2 := blk_frozen BK477.out 2; have hfz63_3 := blk_frozen BK477.out 3; have hcz64_0 := blkc BK476.out 0 (.int .i64 0) rfl; have hcz64_1 := blkc BK476.out 1 (.slice none 0 0) rfl; have hcz64_2 := blkc BK476.out 2 (.slice none 0 0) rfl; have hcz64_3 := blkc BK476.out 3 (.slice none 0 0) rfl; have hfz64_0 := blk_frozen BK476.out 0; have hfz64_1 := blk_frozen BK476.out 1; have hfz64_2 := blk_frozen BK476.out 2; have hfz64_3 := blk_frozen BK476.out 3))
    refine bodyPost_ret (results_ct rfl _ _ gb476 96 #[.int .i64 a0_0, .slice A0_1 l0_1.length c0_1, .slice A0_2 l0_2.length c0_2, .slice A2 l2.length c2] (0, 0) _ rfl (by (with_reducible repeat (first | refine blk_drewN ?_ _ | refine blk_drew ?_ | refine blk_alloc ?_ _)); refine blk_put (cs := #[.int .i64 a0_0, .slice A0_1 l0_1.length c0_1, .slice A0_2 l0_2.length c0_2, .slice none 0 0]) ?_ 3 _ rfl; (with_reducible repeat (first | refine blk_drewN ?_ _ | refine blk_drew ?_ | refine blk_alloc ?_ _)); refine blk_put (cs := #[.int .i64 a0_0, .slice A0_1 l0_1.length c0_1, .slice none 0 0, .slice none 0 0]) ?_ 2 _ rfl; (with_reducible repeat (first | refine blk_drewN ?_ _ | refine blk_drew ?_ | refine blk_alloc ?_ _)); refine blk_put (cs := #[.int .i64 a0_0, .slice none 0 0, .slice none 0 0, .slice none 0 0]) ?_ 1 _ rfl; (with_reducible repeat (first | refine blk_drewN ?_ _ | refine blk_drew ?_ | refine blk_alloc ?_ _)); refine blk_put (cs := #[.int .i64 0, .slice none 0 0, .slice none 0 0, .slice none 0 0]) ?_ 0 _ rfl; (with_reducible repeat (first | refine blk_drewN ?_ _ | refine blk_drew ?_ | refine blk_alloc ?_ _)); exact BK476.out) Tryd.underlying96 rfl (by kernel_rfl)) rfl ?_
    exact ⟨ezz, bel⟩
  ·
   rw [if_neg c7] at H
   have c7b0 : (t479 == 0) = false := beq_eq_false_iff_ne.mpr c7
   have c7b1 : (t479 != 0) = true := bne_iff_ne.mpr c7
   simp only [Option.some.injEq, Prod.mk.injEq] at H
   obtain ⟨rfl, rfl⟩ := H
   go_enter Tryd.func69, Tryd.ntmps69
   go_wp2_with (first | ((with_reducible refine gate_dst (N := 3) rfl ?_); refine box_event ?hg (N := 3) ?hd (cs := #[.int .i64 a0_0, .slice A0_1 l0_1.length c0_1, .slice A0_2 l0_2.length c0_2]) (t := 25) ?hr ?_; (case hd => rfl); (case hg => rfl); (case hr => first | (go_simp; done) | (go_simp; rfl)); intro gb475 hg w65 hbox hb; have BK475 := Aside0.mk (hbox); have GW475 := bsz (w := w) hg; have GE475 := GW475; replace HB := Aside0.mk (below_step bel hb); clear hb hbox hg) | ((with_reducible refine gate_dst (N := 6) rfl ?_); refine box_event ?hg (N := 6) ?hd (cs := #[.int .i64 0, .slice none 0 0, .slice none 0 0, .slice none 0 0]) (t := 96) ?hr ?_; (case hd => rfl); (case hg => rfl); (case hr => first | (go_simp; done) | (go_simp; rfl)); intro gb476 hg w66 hbox hb; have BK476 := Aside0.mk (hbox); have GW476 := bsz (w := w) hg; have GE476 := GW476; have NB475_476 := neL (g := gb475) hg; have NB476_475 := neR (g := gb475) hg; replace BK475 := Aside0.mk (blk_below (g := gb475) blkz hb); replace HB := Aside0.mk (below_step bel hb); clear hb hbox hg; have hnb67 := NB475_476.out; have hnc67 := NB476_475.out; have hcz68_0 := blkc BK475.out 0 (.int .i64 a0_0) rfl; have hcz68_1 := blkc BK475.out 1 (.slice A0_1 l0_1.length c0_1) rfl; have hcz68_2 := blkc BK475.out 2 (.slice A0_2 l0_2.length c0_2) rfl) | ((with_reducible refine gate_dst (N := 8) rfl ?_); refine box_event ?hg (N := 8) ?hd (cs := #[.int .i64 0, .slice none 0 0, .slice none 0 0, .slice none 0 0]) (t := 96) ?hr ?_; (case hd => rfl); (case hg => rfl); (case hr => first | (go_simp; done) | (go_simp; rfl)); intro gb477 hg w69 hbox hb; have BK477 := Aside0.mk (hbox); have GW477 := bsz (w := w) hg; have GE477 := GW477; have NB475_477 := neL (g := gb475) hg; have NB477_475 := neR (g := gb475) hg; have NB476_477 := neL (g := gb476) hg; have NB477_476 := neR (g := gb476) hg; replace BK475 := Aside0.mk (blk_below (g := gb475) blkz hb); replace BK476 := Aside0.mk (blk_below (g := gb476) blkz hb); replace HB := Aside0.mk (below_step bel hb); clear hb hbox hg; have hnb70 := NB477_475.out; have hnc70 := NB475_477.out; have hnb71 := NB477_476.out; have hnc71 := NB476_477.out; have hcz72_0 := blkc BK477.out 0 (.int .i64 0) rfl; have hcz72_1 := blkc BK477.out 1 (.slice none 0 0) rfl; have hcz72_2 := blkc BK477.out 2 (.slice none 0 0) rfl; have hcz72_3 := blkc BK477.out 3 (.slice none 0 0) rfl; have hfz72_0 := blk_frozen BK477.out 0; have hfz72_1 := blk_frozen BK477.out 1; have hfz72_2 := blk_frozen BK477.out 2; have hfz72_3 := blk_frozen BK477.out 3; have hcz73_0 := blkc BK475.out 0 (.int .i64 a0_0) rfl; have hcz73_1 := blkc BK475.out 1 (.slice A0_1 l0_1.length c0_1) rfl; have hcz73_2 := blkc BK475.out 2 (.slice A0_2 l0_2.length c0_2) rfl) | ((with_reducible refine gate_callee (f := 19) rfl ?_); refine goesL_ (some 15) rfl rfl Tryd.func19 (by kernel_rfl) rfl #[.agg #[.int .i64 a0_0, .slice A0_1 l0_1.length c0_1, .slice A0_2 l0_2.length c0_2]] rfl mapz ?_; (with_reducible refine (feed_Valid.calls a0_0 _ _ l0_1 _ _ l0_2 true _ ?side1 ?side2 ?side3 ?side4 A4.out).mono ?_); (case side1 => exact cbz HR0_1); (case side2 => exact HC0_1.out); (case side3 => exact cbz HR0_2); (case side4 => exact HC0_2.out); rintro e w74 ⟨rfl, hb⟩; refine ⟨_, rfl, ?_⟩; replace BK475 := Aside0.mk (blk_below (g := gb475) (o := .cells #[.int .i64 a0_0, .slice A0_1 l0_1.length c0_1, .slice A0_2 l0_2.length c0_2] 25 (0, 0)) (by (with_reducible repeat (first | refine blk_drewN ?_ _ | refine blk_drew ?_ | refine blk_alloc ?_ _)); refine blk_far ?_ NB475_477.out _; (with_reducible repeat (first | refine blk_drewN ?_ _ | refine blk_drew ?_ | refine blk_alloc ?_ _)); refine blk_far ?_ NB475_477.out _; (with_reducible repeat (first | refine blk_drewN ?_ _ | refine blk_drew ?_ | refine blk_alloc ?_ _)); refine blk_far ?_ NB475_477.out _; (with_reducible repeat (first | refine blk_drewN ?_ _ | refine blk_drew ?_ | refine blk_alloc ?_ _)); refine blk_far ?_ NB475_477.out _; (with_reducible repeat (first | refine blk_drewN ?_ _ | refine blk_drew ?_ | refine blk_alloc ?_ _)); exact BK475.out) hb); replace BK476 := Aside0.mk (blk_below (g := gb476) (o := .cells #[.int .i64 0, .slice none 0 0, .slice none 0 0, .slice none 0 0] 96 (0, 0)) (by (with_reducible repeat (first | refine blk_drewN ?_ _ | refine blk_drew ?_ | refine blk_alloc ?_ _)); refine blk_far ?_ NB476_477.out _; (with_reducible repeat (first | refine blk_drewN ?_ _ | refine blk_drew ?_ | refine blk_alloc ?_ _)); refine blk_far ?_ NB476_477.out _; (with_reducible repeat (first | refine blk_drewN ?_ _ | refine blk_drew ?_ | refine blk_alloc ?_ _)); refine blk_far ?_ NB476_477.out _; (with_reducible repeat (first | refine blk_drewN ?_ _ | refine blk_drew ?_ | refine blk_alloc ?_ _)); refine blk_far ?_ NB476_477.out _; (with_reducible repeat (first | refine blk_drewN ?_ _ | refine blk_drew ?_ | refine blk_alloc ?_ _)); exact BK476.out) hb); replace BK477 := Aside0.mk (blk_below (g := gb477) (o := .cells #[.int .i64 a0_0, .slice A0_1 l0_1.length c0_1, .slice A0_2 l0_2.length c0_2, .slice A2 l2.length c2] 96 (0, 0)) (by (with_reducible repeat (first | refine blk_drewN ?_ _ | refine blk_drew ?_ | refine blk_alloc ?_ _)); refine blk_put (cs := #[.int .i64 a0_0, .slice A0_1 l0_1.length c0_1, .slice A0_2 l0_2.length c0_2, .slice none 0 0]) ?_ 3 _ rfl; (with_reducible repeat (first | refine blk_drewN ?_ _ | refine blk_drew ?_ | refine blk_alloc ?_ _)); refine blk_put (cs := #[.int .i64 a0_0, .slice A0_1 l0_1.length c0_1, .slice none 0 0, .slice none 0 0]) ?_ 2 _ rfl; (with_reducible repeat (first | refine blk_drewN ?_ _ | refine blk_drew ?_ | refine blk_alloc ?_ _)); refine blk_put (cs := #[.int .i64 a0_0, .slice none 0 0, .slice none 0 0, .slice none 0 0]) ?_ 1 _ rfl; (with_reducible repeat (first | refine blk_drewN ?_ _ | refine blk_drew ?_ | refine blk_alloc ?_ _)); refine blk_put (cs := #[.int .i64 0, .slice none 0 0, .slice none 0 0, .slice none 0 0]) ?_ 0 _ rfl; (with_reducible repeat (first | refine blk_drewN ?_ _ | refine blk_drew ?_ | refine blk_alloc ?_ _)); exact BK477.out) hb); replace HB := Aside0.mk (below_step bel hb); (try clear hb); (try clear hb2); (try clear hk); (try clear hi); have hcz75_0 := blkc BK477.out 0 (.int .i64 a0_0) rfl; have hcz75_1 := blkc BK477.out 1 (.slice A0_1 l0_1.length c0_1) rfl; have hcz75_2 := blkc BK477.out 2 (.slice A0_2 l0_2.length c0_2) rfl; have hcz75_3 := blkc BK477.out 3 (.slice A2 l2.length c2) rfl; have hfz75_0 := blk_frozen BK477.out 0; have hfz75_1 := blk_frozen BK477.out 1; have hfz75_2 := blk_frozen BK477.out 2; have hfz75_3 := blk_frozen BK477.out 3) | ((with_reducible refine gate_callee (f := 84) rfl ?_); refine goesL_ (some 19) rfl rfl Tryd.func84 (by kernel_rfl) rfl #[.agg #[.int .i64 a0_0, .slice A0_1 l0_1.length c0_1, .slice A0_2 l0_2.length c0_2, .slice A2 l2.length c2]] rfl mapz ?_; (with_reducible refine (feed_rule_kept.calls k a0_0 _ _ l0_1 _ _ l0_2 _ _ l2 t479 _ ?side1 ?side2 ?side3 ?side4 ?side5 ?side6 A6.out).mono ?_); (case side1 => exact cbz HR0_1); (case side2 => exact HC0_1.out); (case side3 => exact cbz HR0_2); (case side4 => exact HC0_2.out); (case side5 => exact cbz HR2); (case side6 => exact HC2.out); rintro e w76 ⟨rfl, hb⟩; refine ⟨_, rfl, ?_⟩; replace BK475 := Aside0.mk (blk_below (g := gb475) blkz hb); replace BK476 := Aside0.mk (blk_below (g := gb476) blkz hb); replace BK477 := Aside0.mk (blk_below (g := gb477) blkz hb); replace HB := Aside0.mk (below_step bel hb); (try clear hb); (try clear hb2); (try clear hk); (try clear hi); have hcz77_0 := blkc BK477.out 0 (.int .i64 a0_0) rfl; have hcz77_1 := blkc BK477.out 1 (.slice A0_1 l0_1.length c0_1) rfl; have hcz77_2 := blkc BK477.out 2 (.slice A0_2 l0_2.length c0_2) rfl; have hcz77_3 := blkc BK477.out 3 (.slice A2 l2.length c2) rfl; have hfz77_0 := blk_frozen BK477.out 0; have hfz77_1 := blk_frozen BK477.out 1; have hfz77_2 := blk_frozen BK477.out 2; have hfz77_3 := blk_frozen BK477.out 3; have hcz78_0 := blkc BK476.out 0 (.int .i64 0) rfl; have hcz78_1 := blkc BK476.out 1 (.slice none 0 0) rfl; have hcz78_2 := blkc BK476.out 2 (.slice none 0 0) rfl; have hcz78_3 := blkc BK476.out 3 (.slice none 0 0) rfl; have hfz78_0 := blk_frozen BK476.out 0; have hfz78_1 := blk_frozen BK476.out 1; have hfz78_2 := blk_frozen BK476.out 2; have hfz78_3 := blk_frozen BK476.out 3))
   refine bodyPost_ret (results_ct rfl _ _ gb476 96 #[.int .i64 a0_0, .slice A0_1 l0_1.length c0_1, .slice A0_2 l0_2.length c0_2, .slice A2 l2.length c2] (0, 0) _ rfl (by (with_reducible repeat (first | refine blk_drewN ?_ _ | refine blk_drew ?_ | refine blk_alloc ?_ _)); refine blk_put (cs := #[.int .i64 a0_0, .slice A0_1 l0_1.length c0_1, .slice A0_2 l0_2.length c0_2, .slice none 0 0]) ?_ 3 _ rfl; (with_reducible repeat (first | refine blk_drewN ?_ _ | refine blk_drew ?_ | refine blk_alloc ?_ _)); refine blk_put (cs := #[.int .i64 a0_0, .slice A0_1 l0_1.length c0_1, .slice none 0 0, .slice none 0 0]) ?_ 2 _ rfl; (with_reducible repeat (first | refine blk_drewN ?_ _ | refine blk_drew ?_ | refine blk_alloc ?_ _)); refine blk_put (cs := #[.int .i64 a0_0, .slice none 0 0, .slice none 0 0, .slice none 0 0]) ?_ 1 _ rfl; (with_reducible repeat (first | refine blk_drewN ?_ _ | refine blk_drew ?_ | refine blk_alloc ?_ _)); refine blk_put (cs := #[.int .i64 0, .slice none 0 0, .slice none 0 0, .slice none 0 0]) ?_ 0 _ rfl; (with_reducible repeat (first | refine blk_drewN ?_ _ | refine blk_drew ?_ | refine blk_alloc ?_ _)); exact BK476.out) Tryd.underlying96 rfl (by kernel_rfl)) rfl ?_
   exact ⟨ezz, bel⟩
 ·
  replace c5 := Bool.eq_false_iff.mpr c5
  subst c5
  have H1 : (some (a0_0, 50)) = some (r1, r2) := by rw [if_neg (show ¬ (false = true) by decide)] at H; exact H
  clear H
  have H := H1
  clear H1
  simp only [Option.some.injEq, Prod.mk.injEq] at H
  obtain ⟨rfl, rfl⟩ := H
  go_enter Tryd.func69, Tryd.ntmps69
  go_wp2_with (first | ((with_reducible refine gate_dst (N := 3) rfl ?_); refine box_event ?hg (N := 3) ?hd (cs := #[.int .i64 a0_0, .slice A0_1 l0_1.length c0_1, .slice A0_2 l0_2.length c0_2]) (t := 25) ?hr ?_; (case hd => rfl); (case hg => rfl); (case hr => first | (go_simp; done) | (go_simp; rfl)); intro gb475 hg w79 hbox hb; have BK475 := Aside0.mk (hbox); have GW475 := bsz (w := w) hg; have GE475 := GW475; replace HB := Aside0.mk (below_step bel hb); clear hb hbox hg) | ((with_reducible refine gate_dst (N := 6) rfl ?_); refine box_event ?hg (N := 6) ?hd (cs := #[.int .i64 0, .slice none 0 0, .slice none 0 0, .slice none 0 0]) (t := 96) ?hr ?_; (case hd => rfl); (case hg => rfl); (case hr => first | (go_simp; done) | (go_simp; rfl)); intro gb476 hg w80 hbox hb; have BK476 := Aside0.mk (hbox); have GW476 := bsz (w := w) hg; have GE476 := GW476; have NB475_476 := neL (g := gb475) hg; have NB476_475 := neR (g := gb475) hg; replace BK475 := Aside0.mk (blk_below (g := gb475) blkz hb); replace HB := Aside0.mk (below_step bel hb); clear hb hbox hg; have hnb81 := NB475_476.out; have hnc81 := NB476_475.out; have hcz82_0 := blkc BK475.out 0 (.int .i64 a0_0) rfl; have hcz82_1 := blkc BK475.out 1 (.slice A0_1 l0_1.length c0_1) rfl; have hcz82_2 := blkc BK475.out 2 (.slice A0_2 l0_2.length c0_2) rfl) | ((with_reducible refine gate_dst (N := 8) rfl ?_); refine box_event ?hg (N := 8) ?hd (cs := #[.int .i64 0, .slice none 0 0, .slice none 0 0, .slice none 0 0]) (t := 96) ?hr ?_; (case hd => rfl); (case hg => rfl); (case hr => first | (go_simp; done) | (go_simp; rfl)); intro gb477 hg w83 hbox hb; have BK477 := Aside0.mk (hbox); have GW477 := bsz (w := w) hg; have GE477 := GW477; have NB475_477 := neL (g := gb475) hg; have NB477_475 := neR (g := gb475) hg; have NB476_477 := neL (g := gb476) hg; have NB477_476 := neR (g := gb476) hg; replace BK475 := Aside0.mk (blk_below (g := gb475) blkz hb); replace BK476 := Aside0.mk (blk_below (g := gb476) blkz hb); replace HB := Aside0.mk (below_step bel hb); clear hb hbox hg; have hnb84 := NB477_475.out; have hnc84 := NB475_477.out; have hnb85 := NB477_476.out; have hnc85 := NB476_477.out; have hcz86_0 := blkc BK477.out 0 (.int .i64 0) rfl; have hcz86_1 := blkc BK477.out 1 (.slice none 0 0) rfl; have hcz86_2 := blkc BK477.out 2 (.slice none 0 0) rfl; have hcz86_3 := blkc BK477.out 3 (.slice none 0 0) rfl; have hfz86_0 := blk_frozen BK477.out 0; have hfz86_1 := blk_frozen BK477.out 1; have hfz86_2 := blk_frozen BK477.out 2; have hfz86_3 := blk_frozen BK477.out 3; have hcz87_0 := blkc BK475.out 0 (.int .i64 a0_0) rfl; have hcz87_1 := blkc BK475.out 1 (.slice A0_1 l0_1.length c0_1) rfl; have hcz87_2 := blkc BK475.out 2 (.slice A0_2 l0_2.length c0_2) rfl) | ((with_reducible refine gate_callee (f := 19) rfl ?_); refine goesL_ (some 15) rfl rfl Tryd.func19 (by kernel_rfl) rfl #[.agg #[.int .i64 a0_0, .slice A0_1 l0_1.length c0_1, .slice A0_2 l0_2.length c0_2]] rfl mapz ?_; (with_reducible refine (feed_Valid.calls a0_0 _ _ l0_1 _ _ l0_2 false _ ?side1 ?side2 ?side3 ?side4 A4.out).mono ?_); (case side1 => exact cbz HR0_1); (case side2 => exact HC0_1.out); (case side3 => exact cbz HR0_2); (case side4 => exact HC0_2.out); rintro e w88 ⟨rfl, hb⟩; refine ⟨_, rfl, ?_⟩; replace BK475 := Aside0.mk (blk_below (g := gb475) (o := .cells #[.int .i64 a0_0, .slice A0_1 l0_1.length c0_1, .slice A0_2 l0_2.length c0_2] 25 (0, 0)) (by (with_reducible repeat (first | refine blk_drewN ?_ _ | refine blk_drew ?_ | refine blk_alloc ?_ _)); refine blk_far ?_ NB475_477.out _; (with_reducible repeat (first | refine blk_drewN ?_ _ | refine blk_drew ?_ | refine blk_alloc ?_ _)); refine blk_far ?_ NB475_477.out _; (with_reducible repeat (first | refine blk_drewN ?_ _ | refine blk_drew ?_ | refine blk_alloc ?_ _)); refine blk_far ?_ NB475_477.out _; (with_reducible repeat (first | refine blk_drewN ?_ _ | refine blk_drew ?_ | refine blk_alloc ?_ _)); refine blk_far ?_ NB475_477.out _; (with_reducible repeat (first | refine blk_drewN ?_ _ | refine blk_drew ?_ | refine blk_alloc ?_ _)); exact BK475.out) hb); replace BK476 := Aside0.mk (blk_below (g := gb476) (o := .cells #[.int .i64 0, .slice none 0 0, .slice none 0 0, .slice none 0 0] 96 (0, 0)) (by (with_reducible repeat (first | refine blk_drewN ?_ _ | refine blk_drew ?_ | refine blk_alloc ?_ _)); refine blk_far ?_ NB476_477.out _; (with_reducible repeat (first | refine blk_drewN ?_ _ | refine blk_drew ?_ | refine blk_alloc ?_ _)); refine blk_far ?_ NB476_477.out _; (with_reducible repeat (first | refine blk_drewN ?_ _ | refine blk_drew ?_ | refine blk_alloc ?_ _)); refine blk_far ?_ NB476_477.out _; (with_reducible repeat (first | refine blk_drewN ?_ _ | refine blk_drew ?_ | refine blk_alloc ?_ _)); refine blk_far ?_ NB476_477.out _; (with_reducible repeat (first | refine blk_drewN ?_ _ | refine blk_drew ?_ | refine blk_alloc ?_ _)); exact BK476.out) hb); replace BK477 := Aside0.mk (blk_below (g := gb477) (o := .cells #[.int .i64 a0_0, .slice A0_1 l0_1.length c0_1, .slice A0_2 l0_2.length c0_2, .slice A2 l2.length c2] 96 (0, 0)) (by (with_reducible repeat (first | refine blk_drewN ?_ _ | refine blk_drew ?_ | refine blk_alloc ?_ _)); refine blk_put (cs := #[.int .i64 a0_0, .slice A0_1 l0_1.length c0_1, .slice A0_2 l0_2.length c0_2, .slice none 0 0]) ?_ 3 _ rfl; (with_reducible repeat (first | refine blk_drewN ?_ _ | refine blk_drew ?_ | refine blk_alloc ?_ _)); refine blk_put (cs := #[.int .i64 a0_0, .slice A0_1 l0_1.length c0_1, .slice none 0 0, .slice none 0 0]) ?_ 2 _ rfl; (with_reducible repeat (first | refine blk_drewN ?_ _ | refine blk_drew ?_ | refine blk_alloc ?_ _)); refine blk_put (cs := #[.int .i64 a0_0, .slice none 0 0, .slice none 0 0, .slice none 0 0]) ?_ 1 _ rfl; (with_reducible repeat (first | refine blk_drewN ?_ _ | refine blk_drew ?_ | refine blk_alloc ?_ _)); refine blk_put (cs := #[.int .i64 0, .slice none 0 0, .slice none 0 0, .slice none 0 0]) ?_ 0 _ rfl; (with_reducible repeat (first | refine blk_drewN ?_ _ | refine blk_drew ?_ | refine blk_alloc ?_ _)); exact BK477.out) hb); replace HB := Aside0.mk (below_step bel hb); (try clear hb); (try clear hb2); (try clear hk); (try clear hi); have hcz89_0 := blkc BK477.out 0 (.int .i64 a0_0) rfl; have hcz89_1 := blkc BK477.out 1 (.slice A0_1 l0_1.length c0_1) rfl; have hcz89_2 := blkc BK477.out 2 (.slice A0_2 l0_2.length c0_2) rfl; have hcz89_3 := blkc BK477.out 3 (.slice A2 l2.length c2) rfl; have hfz89_0 := blk_frozen BK477.out 0; have hfz89_1 := blk_frozen BK477.out 1; have hfz89_2 := blk_frozen BK477.out 2; have hfz89_3 := blk_frozen BK477.out 3; have hcz90_0 := blkc BK476.out 0 (.int .i64 0) rfl; have hcz90_1 := blkc BK476.out 1 (.slice none 0 0) rfl; have hcz90_2 := blkc BK476.out 2 (.slice none 0 0) rfl; have hcz90_3 := blkc BK476.out 3 (.slice none 0 0) rfl; have hfz90_0 := blk_frozen BK476.out 0; have hfz90_1 := blk_frozen BK476.out 1; have hfz90_2 := blk_frozen BK476.out 2; have hfz90_3 := blk_frozen BK476.out 3))
  refine bodyPost_ret (results_ct rfl _ _ gb476 96 #[.int .i64 a0_0, .slice A0_1 l0_1.length c0_1, .slice A0_2 l0_2.length c0_2, .slice A2 l2.length c2] (0, 0) _ rfl (by (with_reducible repeat (first | refine blk_drewN ?_ _ | refine blk_drew ?_ | refine blk_alloc ?_ _)); refine blk_put (cs := #[.int .i64 a0_0, .slice A0_1 l0_1.length c0_1, .slice A0_2 l0_2.length c0_2, .slice none 0 0]) ?_ 3 _ rfl; (with_reducible repeat (first | refine blk_drewN ?_ _ | refine blk_drew ?_ | refine blk_alloc ?_ _)); refine blk_put (cs := #[.int .i64 a0_0, .slice A0_1 l0_1.length c0_1, .slice none 0 0, .slice none 0 0]) ?_ 2 _ rfl; (with_reducible repeat (first | refine blk_drewN ?_ _ | refine blk_drew ?_ | refine blk_alloc ?_ _)); refine blk_put (cs := #[.int .i64 a0_0, .slice none 0 0, .slice none 0 0, .slice none 0 0]) ?_ 1 _ rfl; (with_reducible repeat (first | refine blk_drewN ?_ _ | refine blk_drew ?_ | refine blk_alloc ?_ _)); refine blk_put (cs := #[.int .i64 0, .slice none 0 0, .slice none 0 0, .slice none 0 0]) ?_ 0 _ rfl; (with_reducible repeat (first | refine blk_drewN ?_ _ | refine blk_drew ?_ | refine blk_alloc ?_ _)); exact BK476.out) Tryd.underlying96 rfl (by kernel_rfl)) rfl ?_
  exact ⟨ezz, bel⟩

/-! ### feed_rule_steps: function 71 -/
def feed_rule_steps.l0 : Nat → Int → List Int → Int → Int → Int → List (S69) → List (S71) → List Int → Option (List Int)
 | 0, _, _, _, _, _, _, _, _ => none
 | k + 1, x1, x5, x12, x13, x484000, x484001, x484002, x484003 => if x13 < x12 then (if 0 ≤ x13 then ((feed_rule_keeps.f k x484000 x484001 x484002 x484003 (Go.bits .xor .i64 x1 (shl .i64 1 x13))).bind fun t484 => (if t484 = true then (if x5.length < 17592186044416 then (feed_rule_steps.l0 k x1 (x5 ++ [Go.bits .xor .i64 x1 (shl .i64 1 x13)]) x12 (wrap64 (x13 + 1)) x484000 x484001 x484002 x484003) else (none)) else (if x5.length < 17592186044416 then (feed_rule_steps.l0 k x1 (x5 ++ [(-1)]) x12 (wrap64 (x13 + 1)) x484000 x484001 x484002 x484003) else (none)))) else (none)) else (some x5)
def feed_rule_steps.f (k : Nat) (a0_0 : Int) (l0_1 : List (S69)) (l0_2 : List (S71)) (l0_3 : List Int) (a1 : Int) : Option (List Int) := feed_rule_steps.l0 k a1 ([] : List Int) (l0_1.length : Int) 0 a0_0 l0_1 l0_2 l0_3
theorem feed_rule_steps.mono_l : ∀ k, (∀ y0 y1 y2 y3 y4 y5 y6 y7, LeO (feed_rule_steps.l0 k y0 y1 y2 y3 y4 y5 y6 y7) (feed_rule_steps.l0 (k + 1) y0 y1 y2 y3 y4 y5 y6 y7))
 | 0 => fun _ _ _ _ _ _ _ _ r h => by simp [feed_rule_steps.l0] at h
 | k + 1 => by
  have ih0 := feed_rule_steps.mono_l k
  ·
   intro y0 y1 y2 y3 y4 y5 y6 y7
   unfold feed_rule_steps.l0
   repeat' first
   | (with_reducible exact ih0 _ _ _ _ _ _ _ _)
   | (with_reducible exact feed_rule_keeps.mono _ _ _ _ _ _)
   | (with_reducible exact LeO.refl _)
   | (with_reducible exact LeO.none _)
   | (with_reducible refine LeO.ite ?_ ?_)
   | (with_reducible refine LeO.bind ?_ (fun _ => ?_))
   | exact ih0 _ _ _ _ _ _ _ _
   | exact feed_rule_keeps.mono _ _ _ _ _ _
   | exact LeO.none _
   | refine LeO.ite ?_ ?_
   | refine LeO.bind ?_ (fun _ => ?_)
theorem feed_rule_steps.mono : ∀ a0 a1 a2 a3 a4 k, LeO (feed_rule_steps.f k a0 a1 a2 a3 a4) (feed_rule_steps.f (k + 1) a0 a1 a2 a3 a4) := by
 intro a0 a1 a2 a3 a4 k
 have ih0 := feed_rule_steps.mono_l k
 unfold feed_rule_steps.f
 repeat' first
   | (with_reducible exact ih0 _ _ _ _ _ _ _ _)
   | (with_reducible exact feed_rule_keeps.mono _ _ _ _ _ _)
   | (with_reducible exact LeO.refl _)
   | (with_reducible exact LeO.none _)
   | (with_reducible refine LeO.ite ?_ ?_)
   | (with_reducible refine LeO.bind ?_ (fun _ => ?_))
   | exact ih0 _ _ _ _ _ _ _ _
   | exact feed_rule_keeps.mono _ _ _ _ _ _
   | exact LeO.none _
   | refine LeO.ite ?_ ?_
   | refine LeO.bind ?_ (fun _ => ?_)
set_option maxHeartbeats 8000000 in
set_option maxRecDepth 100000 in
theorem feed_rule_steps.calls (k : Nat) (a0_0 : Int) (A0_1 : Option Addr) (c0_1 : Nat) (l0_1 : List (S69)) (A0_2 : Option Addr) (c0_2 : Nat) (l0_2 : List (S71)) (A0_3 : Option Addr) (c0_3 : Nat) (l0_3 : List Int) (a1 : Int) (r : List Int) (w : World) (hr0_1 : Kd.C k69 w A0_1 l0_1.length l0_1) (hc0_1 : l0_1.length ≤ c0_1) (hr0_2 : Kd.C k71 w A0_2 l0_2.length l0_2) (hc0_2 : l0_2.length ≤ c0_2) (hr0_3 : Kd.C (Kd.int .i64) w A0_3 l0_3.length l0_3) (hc0_3 : l0_3.length ≤ c0_3) (hT : Tab.Tabs w) (h : feed_rule_steps.f k a0_0 l0_1 l0_2 l0_3 a1 = some r) :
  Calls Tryd.prog 71 #[.agg #[.int .i64 a0_0, .slice A0_1 l0_1.length c0_1, .slice A0_2 l0_2.length c0_2, .slice A0_3 l0_3.length c0_3], .int .i64 a1] w fun e w' => ∃ v0_ : Value, e = .returned (v0_) ∧ Kd.R (Kd.int .i64) 3 w' w.heap.size (fun _ => True) v0_ r ∧ Below w.heap.size w w' := by
 have HT := Aside0.mk hT
 clear hT
 have hu96 := Tryd.underlying96
 have HR0_1 := Aside0.mk hr0_1
 have HC0_1 := Aside0.mk hc0_1
 clear hr0_1 hc0_1
 have HR0_2 := Aside0.mk hr0_2
 have HC0_2 := Aside0.mk hc0_2
 clear hr0_2 hc0_2
 have HR0_3 := Aside0.mk hr0_3
 have HC0_3 := Aside0.mk hc0_3
 clear hr0_3 hc0_3
 have HB := Aside0.mk (Below.refl w.heap.size w)
 have H : (feed_rule_steps.l0 k a1 ([] : List Int) (l0_1.length : Int) 0 a0_0 l0_1 l0_2 l0_3) = some r := h
 clear h
 have H' := Aside0.mk H
 clear H
 go_enter Tryd.func71, Tryd.ntmps71
 go_wp2_with (first | ((with_reducible refine gate_dst (N := 2) rfl ?_); refine box_event ?hg (N := 2) ?hd (cs := #[.int .i64 a0_0, .slice A0_1 l0_1.length c0_1, .slice A0_2 l0_2.length c0_2, .slice A0_3 l0_3.length c0_3]) (t := 96) ?hr ?_; (case hd => rfl); (case hg => rfl); (case hr => first | (go_simp; done) | (go_simp; rfl)); intro gb483 hg w3 hbox hb; have BK483 := Aside0.mk (hbox); have GW483 := bsz (w := w) hg; have GE483 := GW483; replace HB := Aside0.mk (below_step bel hb); clear hb hbox hg; have hcz4_0 := blkc BK483.out 0 (.int .i64 a0_0) rfl; have hcz4_1 := blkc BK483.out 1 (.slice A0_1 l0_1.length c0_1) rfl; have hcz4_2 := blkc BK483.out 2 (.slice A0_2 l0_2.length c0_2) rfl; have hcz4_3 := blkc BK483.out 3 (.slice A0_3 l0_3.length c0_3) rfl))
 go_loopg [5, 13] k (fun kq v5 v13 w' => ∃ (x5_1 : List Int) (x13_1 : Int), v13 = .int .i64 x13_1 ∧ Aside0 (feed_rule_steps.l0 kq a1 x5_1 (l0_1.length : Int) x13_1 a0_0 l0_1 l0_2 l0_3 = some r) ∧ Aside0 (kq ≤ k) ∧ Aside0 (Kd.R (Kd.int .i64) 3 w' w.heap.size (fun _ => True) v5 x5_1) ∧ Aside0 (w'.heap[gb483]? = some (.cells #[.int .i64 a0_0, (.slice A0_1 l0_1.length c0_1), (.slice A0_2 l0_2.length c0_2), (.slice A0_3 l0_3.length c0_3)] 96 (0, 0))) ∧ Aside0 (Below w.heap.size w w'))
 case atStart => exact ⟨(([] : List Int)), (0), rsz, H', ⟨Nat.le_refl _⟩, ⟨by first | exact Kd.R_nil _ _ _ _ _ | exact Kd.N_nil _ _ _ _ _ | exact Kd.V_nil _ _ _ _ _ | exact Kd.Q_nil _ _ _ _ _ | exact Kd.S_nil _ _ _ _ _⟩, ⟨blkz⟩, ⟨bel⟩⟩
 case round =>
  clear H'
  try clear p2
  try clear hcz4_0
  try clear hcz4_1
  try clear hcz4_2
  try clear hcz4_3
  try clear hfz4_0
  try clear hfz4_1
  try clear hfz4_2
  try clear hfz4_3
  obtain ⟨x5_1, x13_1, rfl, HA, HK1, HO_5, BK483, HB⟩ := hrel
  cases gk with
  | zero => exact absurd HA.out (by simp [feed_rule_steps.l0])
  | succ k1 =>
   have H := HA.out
   clear HA
   simp only [feed_rule_steps.l0] at H
   by_cases c5 : x13_1 < (l0_1.length : Int)
   ·
    rw [if_pos c5] at H
    have c5b0 : decide (x13_1 < (l0_1.length : Int)) = true := decide_eq_true c5
    clear c5
    by_cases c6 : 0 ≤ x13_1
    ·
     rw [if_pos c6] at H
     have c6b0 := eq_true c6
     have c6b1 : decide (0 ≤ x13_1) = true := decide_eq_true c6
     clear c6
     obtain ⟨ji7, hji7⟩ : ∃ j_ : Int, (shl .i64 1 x13_1) = j_ := ⟨_, rfl⟩
     replace H : ((feed_rule_keeps.f k1 a0_0 l0_1 l0_2 l0_3 (Go.bits .xor .i64 a1 (ji7))).bind fun t484 => (if t484 = true then (if x5_1.length < 17592186044416 then (feed_rule_steps.l0 k1 a1 (x5_1 ++ [Go.bits .xor .i64 a1 (ji7)]) (l0_1.length : Int) (wrap64 (x13_1 + 1)) a0_0 l0_1 l0_2 l0_3) else (none)) else (if x5_1.length < 17592186044416 then (feed_rule_steps.l0 k1 a1 (x5_1 ++ [(-1)]) (l0_1.length : Int) (wrap64 (x13_1 + 1)) a0_0 l0_1 l0_2 l0_3) else (none)))) = some r := by first | (rw [hji7] at H; exact H) | (simp only [hji7] at H ⊢; exact H)
     have hji7_ : (IntKind.i64.wrap (1 * 2 ^ min x13_1.toNat 64)) = ji7 := hji7
     have hji7z : x13_1 ≤ 64 → (IntKind.i64.wrap (1 * 2 ^ x13_1.toNat)) = ji7 := shl_small hji7
     have hji7u : (IntKind.i64.wrap (2 ^ min x13_1.toNat 64)) = ji7 := by have h_ := hji7_; rw [Int.one_mul] at h_; exact h_
     have hji7v : x13_1 ≤ 64 → (IntKind.i64.wrap (2 ^ x13_1.toNat)) = ji7 := fun hle_ => by have h_ := hji7z hle_; rw [Int.one_mul] at h_; exact h_
     have hji7y : (wrap64 (1 * 2 ^ min x13_1.toNat 64)) = ji7 := (i64_w _).symm.trans hji7_
     have hji7x : x13_1 ≤ 64 → (wrap64 (1 * 2 ^ x13_1.toNat)) = ji7 := fun h_ => (i64_w _).symm.trans (hji7z h_)
     replace H := Option.bind_eq_some_iff.mp H
     obtain ⟨t484, A80, H⟩ := H
     replace H : (if t484 = true then (if x5_1.length < 17592186044416 then (feed_rule_steps.l0 k1 a1 (x5_1 ++ [Go.bits .xor .i64 a1 (ji7)]) (l0_1.length : Int) (wrap64 (x13_1 + 1)) a0_0 l0_1 l0_2 l0_3) else (none)) else (if x5_1.length < 17592186044416 then (feed_rule_steps.l0 k1 a1 (x5_1 ++ [(-1)]) (l0_1.length : Int) (wrap64 (x13_1 + 1)) a0_0 l0_1 l0_2 l0_3) else (none))) = some r := H
     have A8 := Aside0.mk A80
     clear A80
     by_cases c9 : t484 = true
     ·
      subst c9
      have H1 : (if x5_1.length < 17592186044416 then (feed_rule_steps.l0 k1 a1 (x5_1 ++ [Go.bits .xor .i64 a1 (ji7)]) (l0_1.length : Int) (wrap64 (x13_1 + 1)) a0_0 l0_1 l0_2 l0_3) else (none)) = some r := by rw [if_pos rfl] at H; exact H
      clear H
      have H := H1
      clear H1
      by_cases c10 : x5_1.length < 17592186044416
      ·
       rw [if_pos c10] at H
       have LMc10 := Aside0.mk c10
       clear c10
       obtain ⟨y485, hy485⟩ : ∃ y_ : List Int, y_ = (x5_1 ++ [Go.bits .xor .i64 a1 (ji7)]) := ⟨_, rfl⟩
       replace H : (feed_rule_steps.l0 k1 a1 y485 (l0_1.length : Int) (wrap64 (x13_1 + 1)) a0_0 l0_1 l0_2 l0_3) = some r := by first | (rw [hy485]; with_reducible exact H) | (have H2_ := (Option.bind_some _ _).symm.trans H; rw [hy485]; with_reducible exact H2_) | (have H2_ := (Option.bind_some _ _).symm.trans H; with_reducible exact H2_) | with_reducible exact H | (rw [hy485]; exact H) | exact H
       have Ny485 := Aside0.mk hy485
       clear hy485
       have H' := Aside0.mk H
       clear H
       have hcz11_0 := blkc BK483.out 0 (.int .i64 a0_0) rfl
       have hcz11_1 := blkc BK483.out 1 (.slice A0_1 l0_1.length c0_1) rfl
       have hcz11_2 := blkc BK483.out 2 (.slice A0_2 l0_2.length c0_2) rfl
       have hcz11_3 := blkc BK483.out 3 (.slice A0_3 l0_3.length c0_3) rfl
       have hfz11_0 := blk_frozen BK483.out 0
       have hfz11_1 := blk_frozen BK483.out 1
       have hfz11_2 := blk_frozen BK483.out 2
       have hfz11_3 := blk_frozen BK483.out 3
       go_wp2_with (first | ((with_reducible refine gate_callee (f := 85) rfl ?_); refine goesL_ (some 22) rfl rfl Tryd.func85 (by kernel_rfl) rfl #[.agg #[.int .i64 a0_0, .slice A0_1 l0_1.length c0_1, .slice A0_2 l0_2.length c0_2, .slice A0_3 l0_3.length c0_3], .int .i64 (Go.bits .xor .i64 a1 (ji7))] rfl (by (try simp only [List.map_toArray, List.map_cons, List.map_nil]); first | done | (simp only [hji7]; rfl) | rfl | (simp only [List.length_drop, List.length_take]; rfl)) ?_; (with_reducible refine (feed_rule_keeps.calls k1 a0_0 _ _ l0_1 _ _ l0_2 _ _ l0_3 (Go.bits .xor .i64 a1 (ji7)) true _ ?side1 ?side2 ?side3 ?side4 ?side5 ?side6 ?sideT A8.out).mono ?_); (case sideT => first | exact HT.out | exact Tab.Tabs.below HT.out bel | (with_reducible repeat (first | exact HT.out | apply Tab.Tabs.alloc | apply Tab.Tabs.drewN | apply Tab.Tabs.drew))); (case side1 => exact cbz HR0_1); (case side2 => exact HC0_1.out); (case side3 => exact cbz HR0_2); (case side4 => exact HC0_2.out); (case side5 => exact cbz HR0_3); (case side6 => exact HC0_3.out); rintro e w12 ⟨rfl, hb⟩; refine ⟨_, rfl, ?_⟩; replace HO_5 := Aside0.mk (Kd.R_below (ownx HO_5) hb); replace BK483 := Aside0.mk (blk_below (g := gb483) blkz hb); replace HB := Aside0.mk (below_step bel hb); (try clear hb); (try clear hb2); (try clear hk); (try clear hi)) | ((with_reducible refine gate_builtin (b := .append) (xs := #[.tmp 24, .tmp 26]) rfl ?_); at_builtin; refine Kd.R_append (Kd.int .i64) (w0 := w) w.heap.size rfl (.tmp 24) (.tmp 26) 28 3 (.int .i64 0) 8 rfl Tryd.underlying28 info3 rfl (by decide) (by omega) u5 x5_1 (Go.bits .xor .i64 a1 (ji7)) [.int .i64 (Go.bits .xor .i64 a1 (ji7))] (fun _ => True) (fun _ => False) rfl rfl ?aP (fun _ hk => hk.elim) ?aF ?aO ?aB ?aS ?aL ?_; (case aP => exact rfl); (case aB => exact bel); (case aF => exact (fun _ _ => trivial)); (case aO => exact (ownx HO_5)); (case aS => exact (below_size bel)); (case aL => have := LMc10.out; omega); intro v486 w13 ho hb hg hat; rw [← Ny485.out] at ho; have n0_ := Aside0.mk (blk_grown (g := gb483) (o := .cells #[.int .i64 a0_0, .slice A0_1 l0_1.length c0_1, .slice A0_2 l0_2.length c0_2, .slice A0_3 l0_3.length c0_3] 96 (0, 0)) blkz hg (Kd.R_ne HO_5.out BK483.out (by decide))); have n1_ := Aside0.mk (hb); have n2_ := Aside0.mk (ho); clear BK483; clear HB; clear HO_5; have BK483 := n0_; have HB := n1_; have HO487 := n2_; clear n0_ n1_ n2_; clear ho hb hg hat))
       go_roundg k1
       case measure => have := HK1.out; omega
       case rel => exact ⟨(y485), (wrap64 (x13_1 + 1)), rsz, H', ⟨by have := HK1.out; omega⟩, ⟨by (with_reducible repeat (first | apply Kd.R_alloc | apply Kd.R_drewN | apply Kd.R_drew)); exact HO487.out⟩, ⟨blkz⟩, ⟨bel⟩⟩
      ·
       rw [if_neg c10] at H
       exact absurd H (by simp)
     ·
      replace c9 := Bool.eq_false_iff.mpr c9
      subst c9
      have H1 : (if x5_1.length < 17592186044416 then (feed_rule_steps.l0 k1 a1 (x5_1 ++ [(-1)]) (l0_1.length : Int) (wrap64 (x13_1 + 1)) a0_0 l0_1 l0_2 l0_3) else (none)) = some r := by rw [if_neg (show ¬ (false = true) by decide)] at H; exact H
      clear H
      have H := H1
      clear H1
      by_cases c14 : x5_1.length < 17592186044416
      ·
       rw [if_pos c14] at H
       have LMc14 := Aside0.mk c14
       clear c14
       obtain ⟨y488, hy488⟩ : ∃ y_ : List Int, y_ = (x5_1 ++ [(-1)]) := ⟨_, rfl⟩
       replace H : (feed_rule_steps.l0 k1 a1 y488 (l0_1.length : Int) (wrap64 (x13_1 + 1)) a0_0 l0_1 l0_2 l0_3) = some r := by first | (rw [hy488]; with_reducible exact H) | (have H2_ := (Option.bind_some _ _).symm.trans H; rw [hy488]; with_reducible exact H2_) | (have H2_ := (Option.bind_some _ _).symm.trans H; with_reducible exact H2_) | with_reducible exact H | (rw [hy488]; exact H) | exact H
       have Ny488 := Aside0.mk hy488
       clear hy488
       have H' := Aside0.mk H
       clear H
       have hcz15_0 := blkc BK483.out 0 (.int .i64 a0_0) rfl
       have hcz15_1 := blkc BK483.out 1 (.slice A0_1 l0_1.length c0_1) rfl
       have hcz15_2 := blkc BK483.out 2 (.slice A0_2 l0_2.length c0_2) rfl
       have hcz15_3 := blkc BK483.out 3 (.slice A0_3 l0_3.length c0_3) rfl
       have hfz15_0 := blk_frozen BK483.out 0
       have hfz15_1 := blk_frozen BK483.out 1
       have hfz15_2 := blk_frozen BK483.out 2
       have hfz15_3 := blk_frozen BK483.out 3
       go_wp2_with (first | ((with_reducible refine gate_callee (f := 85) rfl ?_); refine goesL_ (some 22) rfl rfl Tryd.func85 (by kernel_rfl) rfl #[.agg #[.int .i64 a0_0, .slice A0_1 l0_1.length c0_1, .slice A0_2 l0_2.length c0_2, .slice A0_3 l0_3.length c0_3], .int .i64 (Go.bits .xor .i64 a1 (ji7))] rfl (by (try simp only [List.map_toArray, List.map_cons, List.map_nil]); first | done | (simp only [hji7]; rfl) | rfl | (simp only [List.length_drop, List.length_take]; rfl)) ?_; (with_reducible refine (feed_rule_keeps.calls k1 a0_0 _ _ l0_1 _ _ l0_2 _ _ l0_3 (Go.bits .xor .i64 a1 (ji7)) false _ ?side1 ?side2 ?side3 ?side4 ?side5 ?side6 ?sideT A8.out).mono ?_); (case sideT => first | exact HT.out | exact Tab.Tabs.below HT.out bel | (with_reducible repeat (first | exact HT.out | apply Tab.Tabs.alloc | apply Tab.Tabs.drewN | apply Tab.Tabs.drew))); (case side1 => exact cbz HR0_1); (case side2 => exact HC0_1.out); (case side3 => exact cbz HR0_2); (case side4 => exact HC0_2.out); (case side5 => exact cbz HR0_3); (case side6 => exact HC0_3.out); rintro e w16 ⟨rfl, hb⟩; refine ⟨_, rfl, ?_⟩; replace HO_5 := Aside0.mk (Kd.R_below (ownx HO_5) hb); replace BK483 := Aside0.mk (blk_below (g := gb483) blkz hb); replace HB := Aside0.mk (below_step bel hb); (try clear hb); (try clear hb2); (try clear hk); (try clear hi)) | ((with_reducible refine gate_builtin (b := .append) (xs := #[.tmp 24, .tmp 26]) rfl ?_); at_builtin; refine Kd.R_append (Kd.int .i64) (w0 := w) w.heap.size rfl (.tmp 24) (.tmp 26) 28 3 (.int .i64 0) 8 rfl Tryd.underlying28 info3 rfl (by decide) (by omega) u5 x5_1 (-1) [.int .i64 (-1)] (fun _ => True) (fun _ => False) rfl rfl ?aP (fun _ hk => hk.elim) ?aF ?aO ?aB ?aS ?aL ?_; (case aP => exact rfl); (case aB => exact bel); (case aF => exact (fun _ _ => trivial)); (case aO => exact (ownx HO_5)); (case aS => exact (below_size bel)); (case aL => have := LMc14.out; omega); intro v489 w17 ho hb hg hat; rw [← Ny488.out] at ho; have n0_ := Aside0.mk (blk_grown (g := gb483) (o := .cells #[.int .i64 a0_0, .slice A0_1 l0_1.length c0_1, .slice A0_2 l0_2.length c0_2, .slice A0_3 l0_3.length c0_3] 96 (0, 0)) blkz hg (Kd.R_ne HO_5.out BK483.out (by decide))); have n1_ := Aside0.mk (hb); have n2_ := Aside0.mk (ho); clear BK483; clear HB; clear HO_5; have BK483 := n0_; have HB := n1_; have HO490 := n2_; clear n0_ n1_ n2_; clear ho hb hg hat))
       go_roundg k1
       case measure => have := HK1.out; omega
       case rel => exact ⟨(y488), (wrap64 (x13_1 + 1)), rsz, H', ⟨by have := HK1.out; omega⟩, ⟨by (with_reducible repeat (first | apply Kd.R_alloc | apply Kd.R_drewN | apply Kd.R_drew)); exact HO490.out⟩, ⟨blkz⟩, ⟨bel⟩⟩
      ·
       rw [if_neg c14] at H
       exact absurd H (by simp)
    ·
     rw [if_neg c6] at H
     exact absurd H (by simp)
   ·
    rw [if_neg c5] at H
    have c5b0 : decide (x13_1 < (l0_1.length : Int)) = false := decide_eq_false c5
    clear c5
    obtain rfl := Option.some.inj H
    go_wp2
    go_ret
    exact ⟨_, ezz, by (with_reducible repeat (first | apply Kd.R_alloc | apply Kd.R_drewN | apply Kd.R_drew)); exact HO_5.out, bel⟩

/-! ### slices_Clone_int_int: function 97 -/
def slices_Clone_int_int.f (l0 : List Int) : Option (List Int) := if l0.length * 8 ≤ 140737488351232 then some l0 else none
theorem slices_Clone_int_int.calls (A0 : Option Addr) (c0 : Nat) (l0 : List Int) (r : List Int) (w : World) (hr0 : Kd.C (Kd.int .i64) w A0 l0.length l0) (hc0 : l0.length ≤ c0) (h : slices_Clone_int_int.f l0 = some r) :
  Calls Tryd.prog 97 #[.slice A0 l0.length c0] w fun e w' => ∃ v0_ : Value, e = .returned (v0_) ∧ Kd.R (Kd.int .i64) 3 w' w.heap.size (fun _ => True) v0_ r ∧ Below w.heap.size w w' := by
 unfold slices_Clone_int_int.f at h
 by_cases hl : ¬ l0.length * 8 ≤ 140737488351232
 ·
  rw [if_neg hl] at h; cases h
 replace hl := Decidable.not_not.1 hl
 rw [if_pos hl] at h
 obtain rfl := Option.some.inj h
 cases l0 with
 | nil =>
  cases A0 with
  | none =>
   refine (Tryd.slices_Clone_int_nil 0 c0 w).mono ?_
   rintro e w' ⟨rfl, rfl⟩
   exact ⟨_, rfl, Kd.R_nil _ _ _ _ _, Below.refl _ _⟩
  | some a =>
   refine (Tryd.slices_Clone_int_zero a c0 w).mono ?_
   rintro e w' ⟨v', rfl, ho, _, hb⟩
   exact ⟨v', rfl, Kd.R_of_own (enc := Value.int .i64) (h1 := fun _ => rfl) ho (fun _ _ => trivial), hb⟩
 | cons x l =>
  have hcell : ∀ j, j < (x :: l).length → ∃ ad, A0 = some ad ∧ w.cell? (ad.add j) = some (.int .i64 ((x :: l).getD j 0)) := by
   intro j hj
   obtain ⟨ad, e1, hx⟩ := Kd.at_int hr0 (j : Int) (by omega) (by omega)
   refine ⟨ad, e1, ?_⟩
   rw [Int.toNat_natCast] at hx
   rw [hx]; simp [rd]
  obtain ⟨ad, rfl, h0⟩ := hcell 0 (by simp)
  have hsp : ad.spot = none := by
   have e : ad.add 0 = ad := by simp [Addr.add]
   rw [e] at h0
   unfold World.cell? at h0
   split at h0
   ·
    split at h0
    ·
     cases h0
    ·
     rename_i hs; simpa using hs
   ·
    cases h0
  obtain ⟨b, off, sp⟩ := ad
  simp only at hsp
  subst hsp
  refine (Tryd.slices_Clone_int b off (x :: l).length c0 (x :: l) w (Nat.le_refl _) (by omega) (fun j hj => ?_)).mono ?_
  ·
   obtain ⟨ad, e1, hx⟩ := hcell j hj
   cases e1
   have e : (⟨b, off, none⟩ : Addr).add j = ⟨b, off + j, none⟩ := by unfold Addr.add; split <;> simp_all
   rw [e] at hx
   exact hx
  ·
   rintro e w' ⟨v', rfl, ho, _, hb⟩
   rw [List.take_of_length_le (Nat.le_refl _)] at ho
   exact ⟨v', rfl, Kd.R_of_own (enc := Value.int .i64) (h1 := fun _ => rfl) ho (fun _ _ => trivial), hb⟩

/-! ### feed_rule_reach: function 75 -/
def feed_rule_reach.wf (x : Int) : Prop := -9223372036854775808 ≤ x ∧ x ≤ 9223372036854775807
instance (x : Int) : Decidable (feed_rule_reach.wf x) := inferInstanceAs (Decidable (_ ∧ _))
theorem feed_rule_reach.wf_lit {x : Int} (h : feed_rule_reach.wf x) : (Lit.int .i64 x).wf = true := by
 obtain ⟨h0, h1⟩ := h
 exact WalkArith.wf_i64 ⟨h0, h1⟩
def feed_rule_reach.inner : List Int → Int → List Int → List (Int × List Int) → Option (List (Int × List Int))
 | [], _, _, q => some q
 | nx :: t, s, zs, q => if feed_rule_reach.wf nx ∧ q.length < 1000000 ∧ zs.length < 1000000 then (if 0 ≤ nx ∧ hasKey q nx = false then feed_rule_reach.inner t (s + 1) zs (q ++ [(nx, zs ++ [s])]) else feed_rule_reach.inner t (s + 1) zs q) else none
def feed_rule_reach.go : Nat → Int → List S69 → List S71 → List Int → Nat → List (Int × List Int) → Option (List (Int × List Int))
 | 0, _, _, _, _, _, _ => none
 | k + 1, a0_0, l0_1, l0_2, l0_3, i, q => if h : i < q.length then ((feed_rule_steps.f k a0_0 l0_1 l0_2 l0_3 q[i].1).bind fun st => (feed_rule_reach.inner st 0 q[i].2 q).bind fun q' => feed_rule_reach.go k a0_0 l0_1 l0_2 l0_3 (i + 1) q') else some q
def feed_rule_reach.f (k : Nat) (a0_0 : Int) (l0_1 : List S69) (l0_2 : List S71) (l0_3 : List Int) (a1 : Int) : Option (List (Int × List Int)) :=
 if feed_rule_reach.wf a1 then feed_rule_reach.go k a0_0 l0_1 l0_2 l0_3 0 [(a1, [])] else none
theorem feed_rule_reach.mono_go : ∀ k a0 a1 a2 a3 i q, LeO (feed_rule_reach.go k a0 a1 a2 a3 i q) (feed_rule_reach.go (k + 1) a0 a1 a2 a3 i q)
 | 0, _, _, _, _, _, _ => fun r h => by simp [feed_rule_reach.go] at h
 | k + 1, a0, a1, a2, a3, i, q => by
  rw [feed_rule_reach.go, feed_rule_reach.go]
  by_cases h : i < q.length
  ·
   rw [dif_pos h, dif_pos h]
   exact LeO.bind (feed_rule_steps.mono _ _ _ _ _ k) (fun _ => LeO.bind (LeO.refl _) (fun _ => feed_rule_reach.mono_go k _ _ _ _ _ _))
  ·
   rw [dif_neg h, dif_neg h]
   exact LeO.refl _
theorem feed_rule_reach.mono : ∀ a0 a1 a2 a3 a4 k, LeO (feed_rule_reach.f k a0 a1 a2 a3 a4) (feed_rule_reach.f (k + 1) a0 a1 a2 a3 a4) := by
 intro a0 a1 a2 a3 a4 k
 unfold feed_rule_reach.f
 by_cases h : feed_rule_reach.wf a4
 ·
  rw [if_pos h, if_pos h]; exact feed_rule_reach.mono_go _ _ _ _ _ _ _
 ·
  rw [if_neg h, if_neg h]; exact LeO.refl _
def feed_rule_reach.Rel (w W : World) (b gb : Nat) (cs : Array Value) (S Z : Nat → Prop) (v6 : Value) (q : List (Int × List Int)) : Prop :=
 RMap Tryd.prog 3 3 W w.heap.size b q.length S q ∧ (Kd.int .i64).R 3 W w.heap.size (fun j => ¬ S j ∧ ¬ Z j ∧ j ≠ b) v6 (q.map Prod.fst) ∧ (∀ j, S j → j < W.heap.size ∧ j ≠ b ∧ ¬ Z j) ∧
  W.heap[gb]? = some (.cells cs 96 (0, 0)) ∧ Below w.heap.size w W ∧ w.heap.size ≤ b ∧ (∀ p ∈ q, feed_rule_reach.wf p.1) ∧ (∀ j, Z j → j < W.heap.size)
theorem feed_rule_reach.R_ok {e : Nat} {W : World} {base : Nat} {ok ok' : Nat → Prop} {v : Value} {xs : List Int} (h : (Kd.int .i64).R e W base ok v xs) (hok : ∀ k, v.ownBlock = some k → ok k → base ≤ k → k < W.heap.size → ok' k) : (Kd.int .i64).R e W base ok' v xs := by
 obtain ⟨h1, inner, ho, hr⟩ := Kd.R_bound h
 refine ⟨fun k hk => ?_, inner, ho, hr.imp_ (fun _ _ hp => hp)⟩
 obtain ⟨a, b, c, _⟩ := h1 k hk
 exact hok k hk a b c
section
variable {w W W1 : World} {b gb : Nat} {cs : Array Value} {S Z : Nat → Prop} {v6 : Value} {q : List (Int × List Int)}
theorem feed_rule_reach.Rel.below (h : feed_rule_reach.Rel w W b gb cs S Z v6 q) (hb : Below W.heap.size W W1) : feed_rule_reach.Rel w W1 b gb cs S Z v6 q := by
 obtain ⟨h1, h2, h3, h4, h5, h6, h7, h8⟩ := h
 have hs := below_size hb
 exact ⟨h1.below hb, Kd.R_below h2 hb, fun j hj => ⟨Nat.lt_of_lt_of_le (h3 j hj).1 hs, (h3 j hj).2⟩, (hb.block gb (blk_lt h4)).trans h4, below_step h5 hb, h6, h7, fun j hj => Nat.lt_of_lt_of_le (h8 j hj) hs⟩
theorem feed_rule_reach.Rel.drew (h : feed_rule_reach.Rel w W b gb cs S Z v6 q) : feed_rule_reach.Rel w W.drew b gb cs S Z v6 q := by
 obtain ⟨h1, h2, h3, h4, h5, h6, h7, h8⟩ := h
 exact ⟨h1.drew, Kd.R_drew h2, h3, blk_drew h4, below_drew1 h5, h6, h7, h8⟩
theorem feed_rule_reach.Rel.drewN (h : feed_rule_reach.Rel w W b gb cs S Z v6 q) (m : Nat) : feed_rule_reach.Rel w (W.drewN m) b gb cs S Z v6 q := by
 obtain ⟨h1, h2, h3, h4, h5, h6, h7, h8⟩ := h
 exact ⟨h1.drewN m, Kd.R_drewN h2 m, h3, blk_drewN h4 m, pw_below_drewN h5 m, h6, h7, h8⟩
theorem feed_rule_reach.Rel.zone (h : feed_rule_reach.Rel w W b gb cs S (fun _ => False) v6 q) (hb : Below W.heap.size W W1) : feed_rule_reach.Rel w W1 b gb cs S (fun j => W.heap.size ≤ j ∧ j < W1.heap.size) v6 q := by
 obtain ⟨h1, h2, h3, h4, h5, h6, h7, h8⟩ := h
 have hs := below_size hb
 refine ⟨h1.below hb, Kd.R_below (feed_rule_reach.R_ok h2 (fun k _ hk _ hl => ⟨hk.1, fun hz => ?_, hk.2.2⟩)) hb, fun j hj => ⟨Nat.lt_of_lt_of_le (h3 j hj).1 hs, (h3 j hj).2.1, fun hz => ?_⟩, (hb.block gb (blk_lt h4)).trans h4, below_step h5 hb, h6, h7, fun j hj => hj.2⟩
 ·
  have := hz.1; omega
 ·
  have := hz.1; have := (h3 j hj).1; omega
theorem feed_rule_reach.Rel.unzone (h : feed_rule_reach.Rel w W b gb cs S Z v6 q) : feed_rule_reach.Rel w W b gb cs S (fun _ => False) v6 q := by
 obtain ⟨h1, h2, h3, h4, h5, h6, h7, h8⟩ := h
 exact ⟨h1, feed_rule_reach.R_ok h2 (fun k _ hk _ _ => ⟨hk.1, fun hz => hz.elim, hk.2.2⟩), fun j hj => ⟨(h3 j hj).1, (h3 j hj).2.1, fun hz => hz.elim⟩, h4, h5, h6, h7, fun j hj => hj.elim⟩
theorem feed_rule_reach.Rel.put {W0 W2 : World} {v2 : Value} {nx : Int} {zs : List Int} (h : feed_rule_reach.Rel w W0 b gb cs S Z v6 q) (hb : Below W0.heap.size W0 W1) (hv2 : (Kd.int .i64).R 3 W1 W0.heap.size (fun _ => True) v2 zs)
  (hm : RMap Tryd.prog 3 3 W2 w.heap.size b (q.length + 1) (fun j => S j ∨ v2.ownBlock = some j) (q ++ [(nx, zs)])) (hg2 : W1.grownBy W2 (some b)) (hw : feed_rule_reach.wf nx) :
  (Kd.int .i64).R 3 W2 w.heap.size (fun j => ¬ (S j ∨ v2.ownBlock = some j) ∧ ¬ Z j ∧ j ≠ b) v6 (q.map Prod.fst) ∧ Below w.heap.size w W2 ∧ w.heap.size ≤ W2.heap.size ∧
  (∀ j, W2.heap.size ≤ j → ¬ (S j ∨ v2.ownBlock = some j) ∧ ¬ Z j ∧ j ≠ b) ∧ W2.heap[gb]? = some (.cells cs 96 (0, 0)) ∧ (∀ j, (S j ∨ v2.ownBlock = some j) → j < W2.heap.size ∧ j ≠ b ∧ ¬ Z j) ∧ (∀ j, Z j → j < W2.heap.size) := by
 obtain ⟨h1, h2, h3, h4, h5, h6, h7, h8⟩ := h
 have hs := below_size hb
 have hs2 := hg2.size
 have hbl := h1.lt
 have hblk : ∀ j, v2.ownBlock = some j → W0.heap.size ≤ j ∧ j < W1.heap.size := fun j hj => by
  obtain ⟨_, _, ho, _⟩ := hv2
  exact ⟨own_base ho j hj, own_lt ho j hj⟩
 have e2 : (Kd.int .i64).R 3 W1 w.heap.size (fun j => ¬ (S j ∨ v2.ownBlock = some j) ∧ ¬ Z j ∧ j ≠ b) v6 (q.map Prod.fst) :=
  Kd.R_below (feed_rule_reach.R_ok h2 (fun k _ hk _ hl => ⟨fun e => e.elim hk.1 (fun e => by have := (hblk k e).1; omega), hk.2⟩)) hb
 refine ⟨Kd.R_grown e2 hg2 (fun k hk e => hk.2.2 (by injection e)), (below_step h5 hb).grown hg2 (Nat.le_trans (below_size h5) hs) (fun j hj => by cases hj; exact h6), by have := below_size h5; omega, fun j hj => ⟨fun e => e.elim (fun e => ?_) (fun e => ?_), fun e => ?_, fun e => ?_⟩, ?_, fun j hj => ?_, fun j hj => by have := h8 j hj; omega⟩
 ·
  have := (h3 j e).1; omega
 ·
  have := (hblk j e).2; omega
 ·
  have := h8 j e; omega
 ·
  omega
 ·
  have hgl := blk_lt h4
  have hgb : some gb ≠ some b := fun e => by
   injection e with e
   obtain ⟨D, ⟨es, clock, hm0, _⟩, _⟩ := h1
   rw [e, hm0] at h4
   cases h4
  exact (hg2.block gb (Nat.lt_of_lt_of_le hgl hs) hgb).trans ((hb.block gb hgl).trans h4)
 ·
  rcases hj with hj | hj
  ·
   have := h3 j hj
   exact ⟨by omega, this.2⟩
  ·
   have := hblk j hj
   exact ⟨by omega, by omega, fun e => by have := h8 j e; omega⟩
theorem feed_rule_reach.Rel.fin {S' : Nat → Prop} {v6' : Value} {nx : Int} {zs : List Int} (hm : RMap Tryd.prog 3 3 W w.heap.size b (q.length + 1) S' (q ++ [(nx, zs)])) (hq : (Kd.int .i64).R 3 W w.heap.size (fun j => ¬ S' j ∧ ¬ Z j ∧ j ≠ b) v6 (q.map Prod.fst))
  (hg : W.grownBy W1 v6.ownBlock) (ho : (Kd.int .i64).R 3 W1 w.heap.size (fun j => ¬ S' j ∧ ¬ Z j ∧ j ≠ b) v6' (q.map Prod.fst ++ [nx])) (hb : Below w.heap.size w W1) (hS : ∀ j, S' j → j < W.heap.size ∧ j ≠ b ∧ ¬ Z j) (hZ : ∀ j, Z j → j < W.heap.size)
  (h4 : W.heap[gb]? = some (.cells cs 96 (0, 0))) (hbb : w.heap.size ≤ b) (hw : ∀ p ∈ q, feed_rule_reach.wf p.1) (hwn : feed_rule_reach.wf nx) : feed_rule_reach.Rel w W1 b gb cs S' Z v6' (q ++ [(nx, zs)]) := by
 have hs := hg.size
 have hne : ∀ j, v6.ownBlock = some j → ¬ S' j ∧ ¬ Z j ∧ j ≠ b := hq.1
 have hgb : some gb ≠ v6.ownBlock := Kd.R_ne hq h4 (by decide)
 refine ⟨?_, ?_, fun j hj => ⟨by have := (hS j hj).1; omega, (hS j hj).2⟩, (hg.block gb (blk_lt h4) hgb).trans h4, hb, hbb, fun p hp => ?_, fun j hj => by have := hZ j hj; omega⟩
 ·
  rw [List.length_append]
  exact hm.grown hg (fun e => (hne b e.symm).2.2 rfl) (fun j hj e => (hne j e.symm).1 hj)
 ·
  rw [List.map_append]
  exact ho
 ·
  rcases List.mem_append.1 hp with hp | hp
  ·
   exact hw p hp
  ·
   rw [List.mem_singleton] at hp; subst hp; exact hwn
end
set_option maxHeartbeats 8000000 in
set_option maxRecDepth 100000 in
theorem feed_rule_reach.calls (k : Nat) (a0_0 : Int) (A0_1 : Option Addr) (c0_1 : Nat) (l0_1 : List S69) (A0_2 : Option Addr) (c0_2 : Nat) (l0_2 : List S71) (A0_3 : Option Addr) (c0_3 : Nat) (l0_3 : List Int) (a1 : Int) (r : List (Int × List Int)) (w : World) (hr0_1 : Kd.C k69 w A0_1 l0_1.length l0_1) (hc0_1 : l0_1.length ≤ c0_1) (hr0_2 : Kd.C k71 w A0_2 l0_2.length l0_2) (hc0_2 : l0_2.length ≤ c0_2) (hr0_3 : Kd.C (Kd.int .i64) w A0_3 l0_3.length l0_3) (hc0_3 : l0_3.length ≤ c0_3) (hT : Tab.Tabs w) (h : feed_rule_reach.f k a0_0 l0_1 l0_2 l0_3 a1 = some r) :
  Calls Tryd.prog 75 #[.agg #[.int .i64 a0_0, .slice A0_1 l0_1.length c0_1, .slice A0_2 l0_2.length c0_2, .slice A0_3 l0_3.length c0_3], .int .i64 a1] w fun e w' => ∃ (b : Nat) (S : Nat → Prop), e = .returned (.map (some b)) ∧ RMap Tryd.prog 3 3 w' w.heap.size b r.length S r ∧ (∀ p ∈ r, feed_rule_reach.wf p.1) ∧ Below w.heap.size w w' := by
 have hu := Tryd.underlying25
 have hu2 := Tryd.underlying73
 have hu3 := Tryd.underlying96
 have HT := Aside0.mk hT
 have HR0_1 := Aside0.mk hr0_1
 have HR0_2 := Aside0.mk hr0_2
 have HR0_3 := Aside0.mk hr0_3
 have HC0_1 := Aside0.mk hc0_1
 have HC0_2 := Aside0.mk hc0_2
 have HC0_3 := Aside0.mk hc0_3
 clear hr0_1 hr0_2 hr0_3 hT hc0_1 hc0_2 hc0_3
 unfold feed_rule_reach.f at h
 by_cases hwf : ¬ feed_rule_reach.wf a1
 ·
  rw [if_neg hwf] at h; cases h
 replace hwf := Decidable.not_not.1 hwf
 rw [if_pos hwf] at h
 have H := Aside0.mk h
 have HW := Aside0.mk hwf
 have hmm := @run_makeMap Tryd.prog
 clear h hwf
 obtain ⟨w0, hw0⟩ : ∃ w0, w0 = w.alloc (.cells #[.int .i64 a0_0, .slice A0_1 l0_1.length c0_1, .slice A0_2 l0_2.length c0_2, .slice A0_3 l0_3.length c0_3] 96) := ⟨_, rfl⟩
 have s0 : w0.heap.size = w.heap.size + 1 := by rw [hw0]; exact Array.size_push ..
 have m0 := RMap.made Tryd.prog 3 3 w0 w.heap.size (fun _ => False)
 rw [s0] at m0
 obtain ⟨w2, hrun, hR2, hg2⟩ := m0.store (t := 103) (E := 28) Tryd.underlying103 Tryd.underlying3 (by decide) (feed_rule_reach.wf_lit HW.out) (fun _ h => by cases h) rfl (v := .slice none 0 0) (zs := []) (S' := fun _ => False) (Kd.R_nil _ _ _ _ _) (fun _ h => h) (fun h => h)
 have B0 : w0.heap[w.heap.size]? = some (.cells #[.int .i64 a0_0, .slice A0_1 l0_1.length c0_1, .slice A0_2 l0_2.length c0_2, .slice A0_3 l0_3.length c0_3] 96 (0, 0)) := by rw [hw0]; exact blk_new _ _
 have HB0 : Below w.heap.size w w0 := by rw [hw0]; exact below_alloc (Below.refl _ _) _
 have hs2 : w.heap.size + 2 ≤ w2.heap.size := by
  have h1 := hg2.size
  have h2 : (w0.alloc (.map #[] 0)).heap.size = w0.heap.size + 1 := Array.size_push ..
  omega
 have HRel : Aside0 (feed_rule_reach.Rel w (w2.alloc (.cells #[.int .i64 a1] 3)) (w.heap.size + 1) w.heap.size #[.int .i64 a0_0, .slice A0_1 l0_1.length c0_1, .slice A0_2 l0_2.length c0_2, .slice A0_3 l0_3.length c0_3] (fun _ => False) (fun _ => False) (.slice (some ⟨w2.heap.size, 0, none⟩) 1 1) [(a1, [])]) := ⟨by
  have hx : Below w.heap.size w w2 := (below_alloc HB0 (.map #[] 0)).grown hg2 (by have := below_size (below_alloc HB0 (.map #[] 0)); omega) (fun j hj => by cases hj; omega)
  refine ⟨hR2.alloc _, Kd.R_of_own (own_lit _ _ _ _ [a1] (by omega) (by simp)) (fun k hk => ⟨fun h => h, fun h => h, ?_⟩), fun j h => h.elim, ?_, below_alloc hx _, by omega, fun p hp => ?_, fun j h => h.elim⟩
  ·
   simp only [Value.ownBlock, Option.some.injEq] at hk
   omega
  ·
   refine blk_alloc ((hg2.block w.heap.size ?_ (fun e => by injection e with e; omega)).trans (blk_alloc B0 _)) _
   have h2 : (w0.alloc (.map #[] 0)).heap.size = w0.heap.size + 1 := Array.size_push ..
   omega
  ·
   rw [List.mem_singleton] at hp; subst hp; exact HW.out⟩
 rw [hw0] at hrun
 have hsz : Aside0 (w.heap.size + 2 ≤ w2.heap.size) := ⟨hs2⟩
 clear m0 s0 hR2 hg2 B0 HB0 hs2 hw0
 have ztab : Aside0 (∀ W : World, (zeroValue 28).run Tryd.prog W = .ok (.slice none 0 0) W) := ⟨fun W => by kernel_rfl⟩
 go_enter Tryd.func75, Tryd.ntmps75
 go_wp2
 clear hrun
 go_loopg [6, 7] k (fun kq v6 v7 w' => ∃ (x : Int) (q : List (Int × List Int)) (S : Nat → Prop), v7 = .int .i64 x ∧ Aside0 (0 ≤ x ∧ x ≤ q.length) ∧ Aside0 (kq ≤ k) ∧ Aside0 (feed_rule_reach.go kq a0_0 l0_1 l0_2 l0_3 x.toNat q = some r) ∧ Aside0 (feed_rule_reach.Rel w w' (w.heap.size + 1) w.heap.size #[.int .i64 a0_0, .slice A0_1 l0_1.length c0_1, .slice A0_2 l0_2.length c0_2, .slice A0_3 l0_3.length c0_3] S (fun _ => False) v6 q))
 case atStart => exact ⟨0, [(a1, [])], fun _ => False, rfl, ⟨by omega, by simp⟩, ⟨Nat.le_refl _⟩, H, HRel⟩
 case round =>
  clear HRel H
  obtain ⟨x, q, S, rfl, HI, HK, HG, HL⟩ := hrel
  obtain ⟨A6, c6, e6⟩ := Kd.R_slice HL.out.2.1
  rw [List.length_map] at e6
  subst e6
  obtain ⟨kn, hkn⟩ : ∃ kn, gk = kn + 1 := by
   cases gk with
   | zero => have := HG.out; simp [feed_rule_reach.go] at this
   | succ n => exact ⟨n, rfl⟩
  have hg := HG.out
  rw [hkn, feed_rule_reach.go] at hg
  have HKN := Aside0.mk hkn
  clear hkn HG
  by_cases hlt : x < (q.length : Int)
  ·
   have b1 : decide (x < (q.length : Int)) = true := decide_eq_true hlt
   have p1 : 0 ≤ x := HI.out.1
   have hil : x.toNat < q.length := by omega
   rw [dif_pos hil] at hg
   obtain ⟨st, hst, hg1⟩ := Option.bind_eq_some_iff.1 hg
   obtain ⟨q2, hin, hg2⟩ := Option.bind_eq_some_iff.1 hg1
   obtain ⟨p, hp⟩ : ∃ p, p = q[x.toNat] := ⟨_, rfl⟩
   rw [← hp] at hst hin
   have hpq : p ∈ q := by rw [hp]; exact List.getElem_mem _
   have erd : rd (q.map Prod.fst) x = p.1 := by rw [hp]; simp [rd, List.getD_eq_getElem?_getD, hil]
   have hxp : q[x.toNat]? = some p := by rw [hp]; exact List.getElem?_eq_getElem hil
   have HST := Aside0.mk hst
   have HIN := Aside0.mk hin
   have HG := Aside0.mk hg2
   have HPQ := Aside0.mk hpq
   obtain ⟨ad, e1, hx0⟩ := Kd.at_int (Kd.R_reads' HL.out.2.1).2.2 x p1 (by rw [List.length_map]; exact hlt)
   cases e1
   rw [erd] at hx0
   replace p1 := eq_true p1
   replace hlt := eq_true hlt
   have BK := Aside0.mk HL.out.2.2.2.1
   have k0 := blkc BK.out 0 (.int .i64 a0_0) rfl
   have k1 := blkc BK.out 1 (.slice A0_1 l0_1.length c0_1) rfl
   have k2 := blkc BK.out 2 (.slice A0_2 l0_2.length c0_2) rfl
   have k3 := blkc BK.out 3 (.slice A0_3 l0_3.length c0_3) rfl
   have f0 := blk_frozen BK.out 0
   have f1 := blk_frozen BK.out 1
   have f2 := blk_frozen BK.out 2
   have f3 := blk_frozen BK.out 3
   have HB := Aside0.mk HL.out.2.2.2.2.1
   clear hst hin hpq erd hp hg hg1 hg2 hil HPQ
   go_wp2
   have HR0 := Aside0.mk hx0
   replace HL : Aside0 (feed_rule_reach.Rel w wr.drew (w.heap.size + 1) w.heap.size #[.int .i64 a0_0, .slice A0_1 l0_1.length c0_1, .slice A0_2 l0_2.length c0_2, .slice A0_3 l0_3.length c0_3] S (fun _ => False) (.slice (some ad) q.length c6) q) := ⟨feed_rule_reach.Rel.drew HL.out⟩
   replace BK := Aside0.mk (blk_drew BK.out)
   replace HB := Aside0.mk (below_drew1 HB.out)
   refine start_ (n := 8) (S := fun w' => w'.cell? ⟨w.heap.size, 0, none⟩ = some (.int .i64 a0_0) ∧ w'.cell? ⟨w.heap.size, 1, none⟩ = some (.slice A0_1 l0_1.length c0_1) ∧ w'.cell? ⟨w.heap.size, 2, none⟩ = some (.slice A0_2 l0_2.length c0_2) ∧ w'.cell? ⟨w.heap.size, 3, none⟩ = some (.slice A0_3 l0_3.length c0_3) ∧ w'.cell? (ad.add x.toNat) = some (.int .i64 p.1)) (ds := []) #[false, false, false, false, false, false, false, false] (by kernel_rfl) rfl rfl ⟨(blk_cell BK.out 0).trans rfl, (blk_cell BK.out 1).trans rfl, (blk_cell BK.out 2).trans rfl, (blk_cell BK.out 3).trans rfl, HR0.out⟩ (fun hHeld => ?_)
   clear k0 k1 k2 k3 f0 f1 f2 f3
   have hx0 : wr.drew.cell? (ad.add x.toNat) = some (.int .i64 p.1) := HR0.out
   have HB21 := Aside0.mk HL.out.1.lt
   generalize wr.drew = w21 at HL BK HB hx0 hHeld HB21 ⊢
   refine tst5 (i := 0) (N := some 23) (bz 8 1) (by kernel_rfl) hHeld ?_
   refine pst (i := 1) (N := some 24) (bz 8 3) (by kernel_rfl) ?_
   refine pst (i := 2) (N := some 25) (bz 8 7) (by kernel_rfl) ?_
   refine pst (i := 3) (N := some 26) (bz 8 15) (by kernel_rfl) ?_
   refine tst5 (i := 4) (N := some 27) (bz 8 31) (by kernel_rfl) hHeld ?_
   refine pst (i := 7) (N := some 30) (bz 8 159) (by kernel_rfl) ?_
   refine one_ (i := 5) (N := some 28) #[true, true, true, true, true, true, false, true] rfl rfl (by kernel_rfl) (by decide) (fun K hK => ?_)
   refine goes_ Tryd.func71 (by kernel_rfl) rfl #[.agg #[.int .i64 a0_0, .slice A0_1 l0_1.length c0_1, .slice A0_2 l0_2.length c0_2, .slice A0_3 l0_3.length c0_3], .int .i64 p.1] (by rfl) rfl rfl mapz ?_
   with_reducible refine (feed_rule_steps.calls kn a0_0 _ _ l0_1 _ _ l0_2 _ _ l0_3 p.1 st _ ?side1 ?side2 ?side3 ?side4 ?side5 ?side6 ?sideT HST.out).mono ?_
   (case sideT => exact Tab.Tabs.below HT.out bel)
   (case side1 => exact cbz HR0_1)
   (case side2 => exact HC0_1.out)
   (case side3 => exact cbz HR0_2)
   (case side4 => exact HC0_2.out)
   (case side5 => exact cbz HR0_3)
   (case side6 => exact HC0_3.out)
   rintro e w1 ⟨v28, rfl, ho, hb⟩
   refine ⟨_, rfl, ?_⟩
   obtain ⟨A28, c28, e28⟩ := Kd.R_slice ho
   subst e28
   have HL1 := Aside0.mk (feed_rule_reach.Rel.zone HL.out hb)
   have HO := Aside0.mk (Kd.R_lower (feed_rule_reach.R_ok ho (ok' := fun j => w21.heap.size ≤ j ∧ j < w1.heap.size) (fun j _ _ h1 h2 => ⟨h1, h2⟩)) (below_size HB.out))
   have BK1 := Aside0.mk HL1.out.2.2.2.1
   replace hx0 := (hb.cell (World.block_lt_of_cell? _ _ hx0)).trans hx0
   refine hK.out _ _ ⟨(blk_cell BK1.out 0).trans rfl, (blk_cell BK1.out 1).trans rfl, (blk_cell BK1.out 2).trans rfl, (blk_cell BK1.out 3).trans rfl, hx0⟩ (fun hHeld2 => ?_)
   clear hK K
   refine norm_ (a' := ?_) ?_ ?_
   rotate_left
   ·
    show Act.put _ (some 28) _ = _
    simp only [Act.put, List.setIfInBounds_toArray, List.set_cons_zero, List.set_cons_succ, i64_w, i32_w]
    rfl
   refine pst (i := 6) (N := some 29) (bz 8 255) (by kernel_rfl) ?_
   refine done_ (by kernel_rfl) ?_
   clear hHeld hHeld2 hx0 HL BK HB BK1 ho hb HR0 HST
   go_wp2
   have HX1 := Aside0.mk hxp
   clear hxp
   go_loopg [6, 30] st.length (fun kq v6 v30 w' => ∃ (y : Int) (q' : List (Int × List Int)) (S' : Nat → Prop), v30 = .int .i64 y ∧ Aside0 (0 ≤ y ∧ y ≤ st.length) ∧ Aside0 (kq = st.length - y.toNat) ∧ Aside0 (feed_rule_reach.inner (st.drop y.toNat) y p.2 q' = some q2) ∧ Aside0 (q'[x.toNat]? = some p) ∧ Aside0 (feed_rule_reach.Rel w w' (w.heap.size + 1) w.heap.size #[.int .i64 a0_0, .slice A0_1 l0_1.length c0_1, .slice A0_2 l0_2.length c0_2, .slice A0_3 l0_3.length c0_3] S' (fun j => w21.heap.size ≤ j ∧ j < w1.heap.size) v6 q') ∧ Aside0 ((Kd.int .i64).R 3 w' w.heap.size (fun j => w21.heap.size ≤ j ∧ j < w1.heap.size) (.slice A28 st.length c28) st))
   case atStart => exact ⟨0, q, S, rfl, ⟨by omega, by omega⟩, ⟨rfl⟩, HIN, HX1, HL1, HO⟩
   case round =>
    clear HIN HX1 HL1 HO
    obtain ⟨y, q', S', rfl, HI2, HK2, HIN, HX, HL, HO⟩ := hrel
    obtain ⟨A6', c6', e6⟩ := Kd.R_slice HL.out.2.1
    rw [List.length_map] at e6
    subst e6
    by_cases hlt : y < (st.length : Int)
    ·
     have b1 : decide (y < (st.length : Int)) = true := decide_eq_true hlt
     have p1 : 0 ≤ y := HI2.out.1
     have hyl : y.toNat < st.length := by omega
     obtain ⟨nx, hnx⟩ : ∃ nx, nx = rd st y := ⟨_, rfl⟩
     have hd : st.drop y.toNat = nx :: st.drop (y.toNat + 1) := by
      rw [hnx, show rd st y = st[y.toNat] by simp [rd, List.getD_eq_getElem?_getD, hyl]]; exact List.drop_eq_getElem_cons hyl
     obtain ⟨ad2, e1, hy0⟩ := Kd.at_int (Kd.R_reads' HO.out).2.2 y p1 hlt
     cases e1
     rw [← hnx] at hy0
     have hin := HIN.out
     rw [hd, feed_rule_reach.inner] at hin
     have hyw : wrap64 (y + 1) = y + 1 := by unfold wrap64; have := (Kd.R_reads' HO.out).2.2.2.1; omega
     have hyn : (y + 1).toNat = y.toNat + 1 := by omega
     by_cases hc : ¬ (feed_rule_reach.wf nx ∧ q'.length < 1000000 ∧ p.2.length < 1000000)
     ·
      rw [if_neg hc] at hin; cases hin
     replace hc := Decidable.not_not.1 hc
     rw [if_pos hc] at hin
     obtain ⟨v0, hrun, _, _⟩ := HL.out.1.look_ok Tryd.underlying103 Tryd.underlying3 (ztab.out wr) (feed_rule_reach.wf_lit hc.1)
     have HYW := Aside0.mk hyw
     have HYN := Aside0.mk hyn
     have HC := Aside0.mk hc
     replace p1 := eq_true p1
     replace hlt := eq_true hlt
     by_cases hn0 : 0 ≤ nx
     ·
      have b2 : decide (nx ≥ 0) = true := decide_eq_true hn0
      cases hk : hasKey q' nx with
      | true =>
       rw [if_neg (by simp [hk])] at hin
       rw [hk] at hrun
       have HN := Aside0.mk hin
       clear hin hd hnx hyl hc hn0 hk hyw hyn HIN
       go_wp2
       go_roundg (st.length - (y + 1).toNat)
       case measure => have := HI2.out; have := HK2.out; have := of_eq_true hlt; omega
       case rel => exact ⟨y + 1, q', S', by first | rfl | rw [HYW.out], ⟨by have := HI2.out; omega, by have := of_eq_true hlt; omega⟩, ⟨rfl⟩, ⟨by rw [HYN.out]; exact HN.out⟩, HX, HL, HO⟩
      | false =>
       rw [if_pos ⟨hn0, hk⟩] at hin
       rw [hk] at hrun
       have HN := Aside0.mk hin
       have HK1 := Aside0.mk hk
       have HW2 := Aside0.mk HL.out.2.2.2.2.2.2.1
       obtain ⟨hxl, hxe⟩ := List.getElem?_eq_some_iff.1 HX.out
       have hpm : p ∈ q' := hxe ▸ List.getElem_mem _
       have hx0 : 0 ≤ x := HI.out.1
       have hxq : x < ((q'.length : Nat) : Int) := by omega
       have erd : rd (q'.map Prod.fst) x = p.1 := by simp [rd, List.getD_eq_getElem?_getD, HX.out]
       obtain ⟨adq, eq1, hq0⟩ := Kd.at_int (Kd.R_reads' HL.out.2.1).2.2 x hx0 (by rw [List.length_map]; exact hxq)
       cases eq1
       rw [erd] at hq0
       obtain ⟨u0, hrun2, hfound⟩ := HL.out.1.look (s := p.1) Tryd.underlying103 Tryd.underlying3 (ztab.out wr) (feed_rule_reach.wf_lit (HW2.out p hpm))
       have HU := Aside0.mk (hfound p.2 hpm)
       obtain ⟨Au, cu, eu⟩ := Kd.R_slice HU.out
       subst eu
       have hnb : ¬ (w21.heap.size ≤ w.heap.size + 1 ∧ w.heap.size + 1 < w1.heap.size) := fun e => by have := HB21.out; omega
       have HNB := Aside0.mk hnb
       have hcl : p.2.length * 8 ≤ 140737488351232 := by have := hc.2.2; omega
       have hcf : slices_Clone_int_int.f p.2 = some p.2 := by unfold slices_Clone_int_int.f; rw [if_pos hcl]
       have HCF := Aside0.mk hcf
       replace hx0 := eq_true hx0
       replace hxq := eq_true hxq
       clear hin hd hnx hyl hc hn0 hk hyw hyn HIN hxl hxe hpm erd hfound hnb hcl hcf
       go_wp2_with (first | ((with_reducible refine gate_callee (f := 97) rfl ?_); refine goesL_ (some 55) rfl rfl Tryd.func97 (by kernel_rfl) rfl #[.slice Au p.2.length cu] rfl mapz ?_; (refine (slices_Clone_int_int.calls Au cu p.2 p.2 _ (Kd.R_reads' HU.out).2.2 (Kd.R_reads' HU.out).2.1 HCF.out).mono ?_); rintro e w3 ⟨v55, rfl, ho, hb⟩; refine ⟨_, rfl, ?_⟩; have HO3 := Aside0.mk ho; have HB3 := Aside0.mk hb; clear ho hb) | ((with_reducible refine gate_builtin (b := .append) (xs := #[.tmp 55, .tmp 57]) rfl ?_); at_builtin; refine Kd.R_append (Kd.int .i64) (w0 := wr) wr.heap.size rfl (.tmp 55) (.tmp 57) 28 3 (.int .i64 0) 8 rfl Tryd.underlying28 info3 rfl (by decide) (by omega) v55 p.2 y [.int .i64 y] (fun _ => True) (fun _ => False) rfl rfl ?aP (fun _ hk => hk.elim) ?aF ?aO ?aB ?aS ?aL ?_; (case aP => exact rfl); (case aB => exact HB3.out); (case aF => exact (fun _ _ => trivial)); (case aO => exact HO3.out); (case aS => exact (below_size HB3.out)); (case aL => have := HC.out.2.2; omega); intro v58 w4 ho hb hg hat; have HO4 := Aside0.mk ho; have HB4 := Aside0.mk hb; clear ho hb hg hat HO3 HB3) | (at_mapUpdate; refine rmap_store rfl (.tmp 47) (.tmp 48) (.tmp 58) (.inl rfl) rfl nx rfl v58 rfl (HL.out.1.below HB4.out) Tryd.underlying103 Tryd.underlying3 (by have := HC.out.2.1; unfold maxLen; omega) (feed_rule_reach.wf_lit HC.out.1) (fun p hp => feed_rule_reach.wf_lit (HW2.out p hp)) HK1.out (p.2 ++ [y]) (S' := fun j => S' j ∨ v58.ownBlock = some j) ?hr (fun k hk => .inl hk) ?hsb ?_; (case hr => exact Kd.R_lower (feed_rule_reach.R_ok HO4.out (fun j hj _ _ _ => .inr hj)) (below_size HL.out.2.2.2.2.1)); (case hsb => exact (fun e => e.elim (fun e => (HL.out.2.2.1 _ e).2.1 rfl) (fun e => by have h1 := HL.out.1.lt; obtain ⟨_, _, ho, _⟩ := HO4.out; have h2 := own_base ho _ e; omega))); intro w5 hm hg; have HM5 := Aside0.mk hm; have HG5 := Aside0.mk hg; have HP5 := Aside0.mk (feed_rule_reach.Rel.put HL.out HB4.out HO4.out hm hg HC.out.1); clear hm hg) | ((with_reducible refine gate_builtin (b := .append) (xs := #[.tmp 59, .tmp 61]) rfl ?_); at_builtin; refine Kd.R_append (Kd.int .i64) (w0 := w) w.heap.size rfl (.tmp 59) (.tmp 61) 28 3 (.int .i64 0) 8 rfl Tryd.underlying28 info3 rfl (by decide) (by omega) _ (q'.map Prod.fst) nx [.int .i64 nx] (fun j => ¬ (S' j ∨ v58.ownBlock = some j) ∧ ¬ (w21.heap.size ≤ j ∧ j < w1.heap.size) ∧ j ≠ w.heap.size + 1) (fun _ => False) rfl rfl ?aP (fun _ hk => hk.elim) ?aF ?aO ?aB ?aS ?aL ?_; (case aP => exact rfl); (case aB => exact HP5.out.2.1); (case aF => exact HP5.out.2.2.2.1); (case aO => exact HP5.out.1); (case aS => exact HP5.out.2.2.1); (case aL => have := HC.out.2.1; rw [List.length_map]; omega); intro v62 w6 ho hb hg hat; have HL6 := Aside0.mk (feed_rule_reach.Rel.fin HM5.out HP5.out.1 hg ho hb HP5.out.2.2.2.2.2.1 HP5.out.2.2.2.2.2.2 HP5.out.2.2.2.2.1 HL.out.2.2.2.2.2.1 HW2.out HC.out.1); have HO6 := Aside0.mk (Kd.R_grown (Kd.R_grown (Kd.R_below HO.out HB4.out) HG5.out (fun k hk e => HNB.out (by injection e with e; subst e; exact hk))) hg (fun k hk e => (HP5.out.1.1 k e.symm).2.1 hk)); clear ho hb hg hat))
       go_roundg (st.length - (y + 1).toNat)
       case measure => have := HI2.out; have := HK2.out; have := of_eq_true hlt; omega
       case rel => exact ⟨y + 1, q' ++ [(nx, p.2 ++ [y])], _, by first | rfl | rw [HYW.out], ⟨by have := HI2.out; omega, by have := of_eq_true hlt; omega⟩, ⟨rfl⟩, ⟨by rw [HYN.out]; exact HN.out⟩, ⟨by rw [List.getElem?_append_left (List.getElem?_eq_some_iff.1 HX.out).1]; exact HX.out⟩, HL6, HO6⟩
     ·
      have b2 : decide (nx ≥ 0) = false := decide_eq_false hn0
      rw [if_neg (fun h => hn0 h.1)] at hin
      have HN := Aside0.mk hin
      clear hin hd hnx hyl hc hn0 hyw hyn HIN
      go_wp2
      go_roundg (st.length - (y + 1).toNat)
      case measure => have := HI2.out; have := HK2.out; have := of_eq_true hlt; omega
      case rel => exact ⟨y + 1, q', S', by first | rfl | rw [HYW.out], ⟨by have := HI2.out; omega, by have := of_eq_true hlt; omega⟩, ⟨rfl⟩, ⟨by rw [HYN.out]; exact HN.out⟩, HX, HL, HO⟩
    ·
     have b1 : decide (y < (st.length : Int)) = false := decide_eq_false hlt
     have hin := HIN.out
     rw [List.drop_eq_nil_of_le (by have := HI2.out; omega), feed_rule_reach.inner] at hin
     obtain rfl := Option.some.inj hin
     have hxw : wrap64 (x + 1) = x + 1 := by
      unfold wrap64
      have h1 := (Kd.R_reads' HL.out.2.1).2.2.2.1
      rw [List.length_map] at h1
      have h2 := (List.getElem?_eq_some_iff.1 HX.out).1
      have := HI.out
      omega
     have hxl := (List.getElem?_eq_some_iff.1 HX.out).1
     have HXL := Aside0.mk hxl
     have HXW := Aside0.mk hxw
     clear hin hlt HIN HI2 HK2 HX hxw hxl
     go_wp2
     go_roundg kn
     case measure => have := HKN.out; omega
     case rel => exact ⟨x + 1, q', S', by first | rfl | rw [HXW.out], ⟨by have := HI.out; omega, by have := HXL.out; have := HI.out; omega⟩, ⟨by have := HK.out; have := HKN.out; omega⟩, ⟨by rw [show (x + 1).toNat = x.toNat + 1 by have := HI.out; omega]; exact HG.out⟩, ⟨feed_rule_reach.Rel.unzone HL.out⟩⟩
  ·
   have b1 : decide (x < (q.length : Int)) = false := decide_eq_false hlt
   rw [dif_neg (by have := HI.out; omega)] at hg
   obtain rfl := Option.some.inj hg
   have hx := HL.out
   clear hg HI hlt HKN HL
   go_wp2
   go_ret
   exact ⟨_, _, rfl, hx.1, hx.2.2.2.2.2.2.1, hx.2.2.2.2.1⟩

/-! ### slices_Sort_int_int: function 83 -/
theorem slices_Sort_int_int.reps_ints {w : World} {base : Nat} {ok : Nat → Prop} {xs : List Int} {cs : List Value} (h : Reps ((Kd.int .i64).M w base ok) 1 xs cs) : cs = xs.map (Value.int .i64) := by
 obtain ⟨h1, h2⟩ := h
 apply List.ext_getElem?
 intro j
 by_cases hj : j < xs.length
 ·
  have h3 := h2 j xs[j] (by simp [hj])
  have h4 : (cs.drop (j * 1)).take 1 = [.int .i64 xs[j]] := h3
  have h5 : ((cs.drop (j * 1)).take 1)[0]? = some (.int .i64 xs[j]) := by rw [h4]; rfl
  rw [List.getElem?_take_of_lt (by omega), List.getElem?_drop] at h5
  simp only [Nat.mul_one, Nat.add_zero] at h5
  rw [h5]; simp [hj]
 ·
  rw [List.getElem?_eq_none (by omega), List.getElem?_eq_none (by simp; omega)]

def slices_Sort_int_int.f (l0 : List Int) : Option (List Int) := if l0 = [] ∨ 4611686018427387904 ≤ l0.length then none else some (l0.mergeSort fun x y => decide (x ≤ y))
theorem slices_Sort_int_int.calls (P0_ : Nat → Prop) (u9000_ : Value) (l0 : List Int) (r : List Int) (w0 w : World) (hB : Below w0.heap.size w0 w) (ho0 : Kd.R (Kd.int .i64) 3 w w0.heap.size P0_ u9000_ l0) (h : slices_Sort_int_int.f l0 = some r) :
  Calls Tryd.prog 83 #[u9000_] w fun e w' => e = .returned (.tuple #[]) ∧ Kd.R (Kd.int .i64) 3 w' w0.heap.size (fun k_ => (P0_ k_ ∨ w.heap.size ≤ k_)) u9000_ r ∧ Below w0.heap.size w0 w' ∧ Kept w w' (fun k_ => P0_ k_) := by
 unfold slices_Sort_int_int.f at h
 by_cases hn : l0 = [] ∨ 4611686018427387904 ≤ l0.length
 ·
  rw [if_pos hn] at h; cases h
 rw [if_neg hn] at h
 obtain rfl := Option.some.inj h
 obtain ⟨hok, inner, ho, hr⟩ := ho0
 obtain rfl := slices_Sort_int_int.reps_ints hr
 rcases ho.2 with ⟨_, h0⟩ | ⟨g, cap, cur, rfl, hg, hh, hnc, hcm, hcs, ht⟩
 ·
  exact absurd (List.length_eq_zero_iff.1 h0) (fun hx => hn (.inl hx))
 have hb : g < w.heap.size := (Array.getElem?_eq_some_iff.1 hh).1
 have hcs' : cur.size = cap * 1 := hcs
 have ht' : cur.toList.take l0.length = l0.map (Value.int .i64) := by have h1 := ht; simp only [show (Kd.int IntKind.i64).sz = 1 from rfl, Nat.mul_one] at h1; exact h1
 refine (Tryd.slices_Sort_int g 0 cap l0 w (holds_of_blockI hh ht') hb (by omega)).mono ?_
 rintro e w' ⟨rfl, n, os, rfl⟩
 have hP : P0_ g := hok g (by simp [Value.ownBlock])
 have hsz : (l0.mergeSort fun x y => decide (x ≤ y)).length = l0.length := List.length_mergeSort _
 have hgr := grownBy_sortedI (w := w) (g := g) (n := n) (os := os) (l0.mergeSort fun x y => decide (x ≤ y)).toArray
 have hown := ownsRow_sortedI (w := w) (base := w0.heap.size) (n := n) (os := os) hsz hg hh hnc hcm hcs'
 refine ⟨rfl, ?_, ?_, ?_⟩
 ·
  refine Kd.R_of_own (enc := Value.int .i64) (h1 := fun _ => rfl) ?_ ?_
  ·
   rw [hsz]; exact hown
  ·
   intro k hk
   simp [Value.ownBlock] at hk
   subst hk
   exact .inl hP
 ·
  exact pw_below_grown hB (some g) hB.size hgr (fun k hk => by cases hk; exact hg)
 ·
  exact Kept.of_grown hgr (Kept.refl _ _) (fun k hk => by cases hk; exact .inl hP)

/-! ### feed_Reach: function 42 -/
theorem feed_Reach.hold {P : World → Prop} (w : World) (Q : World → Prop) (hq : Q w) (h : ∀ w', Q w' → P w') : P w := h w hq
def feed_Reach.f (k : Nat) (a0_0 : Int) (l0_1 : List S69) (l0_2 : List S71) (a1 : Int) (l3 : List Int) : Option (List Int × Int) :=
 (feed_ruled.f k a0_0 l0_1 l0_2 a1 l3).bind fun b => if b.2 = 0 then ((feed_rule_reach.f k b.1 l0_1 l0_2 l3 a1).bind fun m => if m ≠ [] ∧ m.length < 2000000 ∧ (m.map Prod.fst).Nodup then some (((m.map Prod.fst).mergeSort fun x y => decide (x ≤ y)), 0) else none) else some ([], b.2)
theorem feed_Reach.mono : ∀ a0 a1 a2 a3 a4 k, LeO (feed_Reach.f k a0 a1 a2 a3 a4) (feed_Reach.f (k + 1) a0 a1 a2 a3 a4) := by
 intro a0 a1 a2 a3 a4 k
 unfold feed_Reach.f
 refine LeO.bind (feed_ruled.mono _ _ _ _ _ _) (fun b => LeO.ite (LeO.bind (feed_rule_reach.mono _ _ _ _ _ _) (fun m => LeO.refl _)) (LeO.refl _))
set_option maxHeartbeats 8000000 in
set_option maxRecDepth 100000 in
theorem feed_Reach.calls (k : Nat) (a0_0 : Int) (A0_1 : Option Addr) (c0_1 : Nat) (l0_1 : List S69) (A0_2 : Option Addr) (c0_2 : Nat) (l0_2 : List S71) (a1 : Int) (A3 : Option Addr) (c3 : Nat) (l3 : List Int) (r1 : List Int) (r2 : Int) (w : World) (hr0_1 : Kd.C k69 w A0_1 l0_1.length l0_1) (hc0_1 : l0_1.length ≤ c0_1) (hr0_2 : Kd.C k71 w A0_2 l0_2.length l0_2) (hc0_2 : l0_2.length ≤ c0_2) (hr3 : Kd.C (Kd.int .i64) w A3 l3.length l3) (hc3 : l3.length ≤ c3) (hT : Tab.Tabs w) (h : feed_Reach.f k a0_0 l0_1 l0_2 a1 l3 = some (r1, r2)) :
  Calls Tryd.prog 42 #[.agg #[.int .i64 a0_0, .slice A0_1 l0_1.length c0_1, .slice A0_2 l0_2.length c0_2], .int .i64 a1, .slice A3 l3.length c3] w fun e w' => ∃ v0_ : Value, e = .returned (.tuple #[v0_, .int .i64 r2]) ∧ Kd.R (Kd.int .i64) 3 w' w.heap.size (fun _ => True) v0_ r1 ∧ Below w.heap.size w w' := by
 have HT := Aside0.mk hT
 have hu1 := Tryd.underlying25
 have hu2 := Tryd.underlying73
 have hu3 := Tryd.underlying96
 have HR0_1 := Aside0.mk hr0_1
 have HR0_2 := Aside0.mk hr0_2
 have HC0_1 := Aside0.mk hc0_1
 have HC0_2 := Aside0.mk hc0_2
 have HR3 := Aside0.mk hr3
 have HC3 := Aside0.mk hc3
 have HB := Aside0.mk (Below.refl w.heap.size w)
 clear hr0_1 hr0_2 hr3 hT hc0_1 hc0_2 hc3
 unfold feed_Reach.f at h
 obtain ⟨⟨tn, te⟩, A50, H0⟩ := Option.bind_eq_some_iff.mp h
 have A5 := Aside0.mk A50
 have H := Aside0.mk H0
 clear h A50 H0
 go_enter Tryd.func42, Tryd.ntmps42
 go_upto_region 2 with (first | ((with_reducible refine gate_dst (N := 3) rfl ?_); refine box_event ?hg (N := 3) ?hd (cs := #[.int .i64 a0_0, .slice A0_1 l0_1.length c0_1, .slice A0_2 l0_2.length c0_2]) (t := 25) ?hr ?_; (case hd => rfl); (case hg => rfl); (case hr => first | (go_simp; done) | (go_simp; rfl)); intro g1 hg wx hbox hb; have BKg1 := Aside0.mk (hbox); have GWg1 := bsz (w := w) hg; replace HB := Aside0.mk (below_step bel hb); clear hb hbox hg; have kg1_0 := blkc BKg1.out 0 (.int .i64 a0_0) rfl; have kg1_1 := blkc BKg1.out 1 (.slice A0_1 l0_1.length c0_1) rfl; have kg1_2 := blkc BKg1.out 2 (.slice A0_2 l0_2.length c0_2) rfl) | ((with_reducible refine gate_callee (f := 69) rfl ?_); refine goesL_ (some 16) rfl rfl Tryd.func69 (by kernel_rfl) rfl #[.agg #[.int .i64 a0_0, .slice A0_1 l0_1.length c0_1, .slice A0_2 l0_2.length c0_2], .int .i64 a1, .slice A3 l3.length c3] rfl mapz ?_; (with_reducible refine (feed_ruled.calls k a0_0 _ _ l0_1 _ _ l0_2 a1 _ _ l3 tn te _ ?side1 ?side2 ?side3 ?side4 ?side5 ?side6 ?sideT A5.out).mono ?_); (case sideT => first | exact HT.out | exact Tab.Tabs.below HT.out bel); (case side1 => exact cbz HR0_1); (case side2 => exact HC0_1.out); (case side3 => exact cbz HR0_2); (case side4 => exact HC0_2.out); (case side5 => exact cbz HR3); (case side6 => exact HC3.out); rintro e wy ⟨rfl, hb⟩; refine ⟨_, rfl, ?_⟩; replace BKg1 := Aside0.mk (blk_below (g := g1) blkz hb); replace HB := Aside0.mk (below_step bel hb); (try clear hb)) | ((with_reducible refine gate_dst (N := 8) rfl ?_); refine box_event ?hg (N := 8) ?hd (cs := #[.int .i64 0, .slice none 0 0, .slice none 0 0, .slice none 0 0]) (t := 96) ?hr ?_; (case hd => rfl); (case hg => rfl); (case hr => first | (go_simp; done) | (go_simp; rfl)); intro g2 hg wx hbox hb; have BKg2 := Aside0.mk (hbox); have GWg2 := bsz (w := w) hg; have NB12 := neL (g := g1) hg; have NB21 := neR (g := g1) hg; replace BKg1 := Aside0.mk (blk_below (g := g1) blkz hb); replace HB := Aside0.mk (below_step bel hb); clear hb hbox hg; have hnb1 := NB21.out; have hnb2 := NB12.out; have kg2_0 := blkc BKg2.out 0 (.int .i64 0) rfl; have fg2_0 := blk_frozen BKg2.out 0; have kg2_1 := blkc BKg2.out 1 (.slice none 0 0) rfl; have fg2_1 := blk_frozen BKg2.out 1; have kg2_2 := blkc BKg2.out 2 (.slice none 0 0) rfl; have fg2_2 := blk_frozen BKg2.out 2; have kg2_3 := blkc BKg2.out 3 (.slice none 0 0) rfl; have fg2_3 := blk_frozen BKg2.out 3))
 (try simp only [Act.put, List.setIfInBounds_toArray, List.set_cons_zero, List.set_cons_succ])
 refine feed_Reach.hold (P := fun W => Code.wp _ _ _ _ W) _ (fun W => Aside0 (W.heap[g1]? = some (.cells #[.int .i64 a0_0, .slice A0_1 l0_1.length c0_1, .slice A0_2 l0_2.length c0_2] 25 (0, 0))) ∧ Aside0 (W.heap[g2]? = some (.cells #[.int .i64 tn, .slice A0_1 l0_1.length c0_1, .slice A0_2 l0_2.length c0_2, .slice A3 l3.length c3] 96 (0, 0))) ∧ Aside0 (Below w.heap.size w W)) ⟨⟨(by (with_reducible repeat (first | refine blk_drewN ?_ _ | refine blk_drew ?_ | refine blk_alloc ?_ _)); refine blk_far ?_ NB12.out _; (with_reducible repeat (first | refine blk_drewN ?_ _ | refine blk_drew ?_ | refine blk_alloc ?_ _)); refine blk_far ?_ NB12.out _; (with_reducible repeat (first | refine blk_drewN ?_ _ | refine blk_drew ?_ | refine blk_alloc ?_ _)); refine blk_far ?_ NB12.out _; (with_reducible repeat (first | refine blk_drewN ?_ _ | refine blk_drew ?_ | refine blk_alloc ?_ _)); refine blk_far ?_ NB12.out _; (with_reducible repeat (first | refine blk_drewN ?_ _ | refine blk_drew ?_ | refine blk_alloc ?_ _)); exact BKg1.out)⟩, ⟨(by (with_reducible repeat (first | refine blk_drewN ?_ _ | refine blk_drew ?_ | refine blk_alloc ?_ _)); refine blk_put (cs := #[.int .i64 tn, .slice A0_1 l0_1.length c0_1, .slice A0_2 l0_2.length c0_2, .slice none 0 0]) ?_ 3 _ rfl; (with_reducible repeat (first | refine blk_drewN ?_ _ | refine blk_drew ?_ | refine blk_alloc ?_ _)); refine blk_put (cs := #[.int .i64 tn, .slice A0_1 l0_1.length c0_1, .slice none 0 0, .slice none 0 0]) ?_ 2 _ rfl; (with_reducible repeat (first | refine blk_drewN ?_ _ | refine blk_drew ?_ | refine blk_alloc ?_ _)); refine blk_put (cs := #[.int .i64 tn, .slice none 0 0, .slice none 0 0, .slice none 0 0]) ?_ 1 _ rfl; (with_reducible repeat (first | refine blk_drewN ?_ _ | refine blk_drew ?_ | refine blk_alloc ?_ _)); refine blk_put (cs := #[.int .i64 0, .slice none 0 0, .slice none 0 0, .slice none 0 0]) ?_ 0 _ rfl; (with_reducible repeat (first | refine blk_drewN ?_ _ | refine blk_drew ?_ | refine blk_alloc ?_ _)); exact BKg2.out)⟩, ⟨bel⟩⟩ ?_
 clear BKg1 BKg2 HB
 rintro W ⟨BKg1, BKg2, HB⟩
 have hge := GWg2.out
 clear kg1_0 kg1_1 kg1_2 kg2_0 fg2_0 kg2_1 fg2_1 kg2_2 fg2_2 kg2_3 fg2_3 hnb1 hnb2
 have H := H.out
 by_cases c1 : te = 0
 ·
  rw [if_pos c1] at H
  have b0 : (te != 0) = false := bne_eq_false_iff_eq.mpr c1
  clear c1
  obtain ⟨m, A80, H⟩ := Option.bind_eq_some_iff.mp H
  have A8 := Aside0.mk A80
  by_cases hm : ¬ (m ≠ [] ∧ m.length < 2000000 ∧ (m.map Prod.fst).Nodup)
  ·
   rw [if_neg hm] at H; cases H
  replace hm := Decidable.not_not.1 hm
  rw [if_pos hm] at H
  have HM := Aside0.mk hm
  cases H
  clear A80 hm
  have k0 := blkc BKg2.out 0 (.int .i64 tn) rfl
  have f0 := blk_frozen BKg2.out 0
  have k1 := blkc BKg2.out 1 (.slice A0_1 l0_1.length c0_1) rfl
  have f1 := blk_frozen BKg2.out 1
  have k2 := blkc BKg2.out 2 (.slice A0_2 l0_2.length c0_2) rfl
  have f2 := blk_frozen BKg2.out 2
  have k3 := blkc BKg2.out 3 (.slice A3 l3.length c3) rfl
  have f3 := blk_frozen BKg2.out 3
  go_wp2_with (first | ((with_reducible refine gate_callee (f := 75) rfl ?_); refine goesL_ (some 24) rfl rfl Tryd.func75 (by kernel_rfl) rfl #[.agg #[.int .i64 tn, .slice A0_1 l0_1.length c0_1, .slice A0_2 l0_2.length c0_2, .slice A3 l3.length c3], .int .i64 a1] rfl mapz ?_; (with_reducible refine (feed_rule_reach.calls k tn _ _ l0_1 _ _ l0_2 _ _ l3 a1 m _ ?side1 ?side2 ?side3 ?side4 ?side5 ?side6 ?sideT A8.out).mono ?_); (case sideT => first | exact HT.out | exact Tab.Tabs.below HT.out bel); (case side1 => exact cbz HR0_1); (case side2 => exact HC0_1.out); (case side3 => exact cbz HR0_2); (case side4 => exact HC0_2.out); (case side5 => exact cbz HR3); (case side6 => exact HC3.out); rintro e wz ⟨b, S, rfl, hm, hwf, hb⟩; refine ⟨_, rfl, ?_⟩; obtain ⟨D, hown, hD, _⟩ := hm; have HOWN := Aside0.mk hown; have HD := Aside0.mk hD; have HWF := Aside0.mk hwf; replace HB := Aside0.mk (below_step bel hb); have HBS := Aside0.mk (below_size HB.out); clear hwf hb hD hown) | (at_range; refine wpList_range_own _ rfl _ 103 rfl 3 28 (Maps.int_keyed Tryd.underlying3) Tryd.underlying103 _ b m.length D rfl HOWN.out ?_; intro w0 hrg0 hg0 hs0))
  (try go_frame)
  have HSZ := Aside0.mk (ownsMap_size HOWN.out)
  have HRG := Aside0.mk hrg0
  have HLB := Aside0.mk HOWN.out.lt
  replace HB := Aside0.mk (HB.out.grown hg0 (by have := HBS.out; omega) (fun j hj => by cases hj))
  have HS0 := Aside0.mk hs0
  clear hrg0 hg0 hs0 k0 k1 k2 k3 f0 f1 f2 f3
  go_loopg [10] (Maps.size D) (fun kq v10 w' => ∃ (left : Lit → Bool) (out : List Int), Aside0 (w'.ranges Tryd.prog 3 anyElem b wz.heap.size m.length D left kq) ∧ Aside0 (Coll m left out) ∧ Aside0 (kq + out.length ≤ Maps.size D) ∧ Aside0 ((Kd.int .i64).R 3 w' w.heap.size (fun j => j ≠ b ∧ j ≠ wz.heap.size) v10 out) ∧ Aside0 (Below w.heap.size w w'))
  case atStart => exact ⟨_, [], HRG, ⟨Coll.start HD.out⟩, ⟨by simp⟩, ⟨Kd.R_nil _ _ _ _ _⟩, HB⟩
  case round =>
   clear HRG HB
   obtain ⟨left, out, HRG, HC, HN, HO, HB⟩ := hrel
   go_wp2_with (first | (at_next; refine wpList_next_ranges _ rfl (.tmp 25) rfl 3 (Maps.int_keyed Tryd.underlying3) anyElem (Value.int .i64) id (fun key kl hkey => by obtain ⟨x, rfl, _⟩ := Maps.keyOf_int_inv Tryd.underlying3 hkey; exact ⟨x, rfl⟩) anyElem_all b wz.heap.size m.length D left _ rfl HRG.out ?_ ?_))
   ·
    intro hc0 hl0
    have HP := Aside0.mk (HC.out.perm hl0 (fun p hp => feed_rule_reach.wf_lit (HWF.out p hp)) HM.out.2.2)
    have HSO : Aside0 (slices_Sort_int_int.f out = some ((m.map Prod.fst).mergeSort fun x y => decide (x ≤ y))) := ⟨by
     have hl := HP.out.length_eq
     rw [List.length_map] at hl
     have hne : out ≠ [] := fun e => by rw [e] at hl; exact HM.out.1 (List.length_eq_zero_iff.1 hl.symm)
     unfold slices_Sort_int_int.f
     rw [if_neg (fun e => e.elim hne (fun e => by have := HM.out.2.1; omega)), mergeSort_int_perm HP.out]⟩
    clear hc0 hl0
    go_wp2_with (first | ((with_reducible refine gate_callee (f := 83) rfl ?_); refine goesL_ (some 35) rfl rfl Tryd.func83 (by kernel_rfl) rfl _ rfl mapz ?_; (refine (slices_Sort_int_int.calls _ _ out _ w _ bel HO.out HSO.out).mono ?_); rintro e ww ⟨rfl, ho, hb, _⟩; refine ⟨_, rfl, ?_⟩; have HO2 := Aside0.mk ho; replace HB := Aside0.mk hb; clear ho hb))
    go_ret2
    exact ⟨_, rfl, feed_rule_reach.R_ok HO2.out (fun _ _ _ _ _ => trivial), bel⟩
   ·
    intro x c kl yd yp w2 cnt2 hkey hlk hv hat hrg2 hlt hg2 hs2 hen
    obtain ⟨x', ex, rfl, hwx⟩ := Maps.keyOf_int_inv Tryd.underlying3 hkey
    cases ex
    have HC2 := Aside0.mk (HC.out.step hwx hlk)
    have HR2 := Aside0.mk hrg2
    have HO2 := Aside0.mk (Kd.R_grown HO.out hg2 (fun k hk e => hk.2 (by injection e)))
    have HB2 := Aside0.mk (HB.out.grown hg2 (below_size HB.out) (fun j hj => by cases hj; have := HBS.out; omega))
    have HLT := Aside0.mk hlt
    have HBR : Aside0 (b < w2.heap.size ∧ wz.heap.size < w2.heap.size) := ⟨hrg2.owns.lt, hrg2.lt⟩
    clear hs2 hkey hlk hv hat hrg2 hlt hg2 hwx
    go_wp2_with (first | ((with_reducible refine gate_builtin (b := .append) (xs := #[.tmp 30, .tmp 32]) rfl ?_); at_builtin; refine Kd.R_append (Kd.int .i64) (w0 := w) w.heap.size rfl (.tmp 30) (.tmp 32) 28 3 (.int .i64 0) 8 rfl Tryd.underlying28 info3 rfl (by decide) (by omega) u10 out x [.int .i64 x] (fun j => j ≠ b ∧ j ≠ wz.heap.size) (fun _ => False) rfl rfl ?aP (fun _ hk => hk.elim) ?aF ?aO ?aB ?aS ?aL ?_; (case aP => exact rfl); (case aB => exact HB2.out); (case aF => exact (fun j hj => by have := HBR.out; exact ⟨by omega, by omega⟩)); (case aO => exact HO2.out); (case aS => exact (below_size HB2.out)); (case aL => have := HN.out; have := HSZ.out; have := HM.out.2.1; omega); intro v33 w3 ho hb hg hat; have HO3 := Aside0.mk ho; have HB3 := Aside0.mk hb; have HR3 := Aside0.mk (HR2.out.kept hg (fun e => (HO2.out.1 _ e.symm).1 rfl) (fun e => (HO2.out.1 _ e.symm).2 rfl)); clear ho hb hg hat))
    go_roundg cnt2
    case measure => exact HLT.out
    case rel => exact ⟨_, out ++ [x], HR3, HC2, ⟨by have := HN.out; have := HLT.out; rw [List.length_append]; simp only [List.length_singleton]; omega⟩, HO3, HB3⟩
 ·
  rw [if_neg c1] at H
  have b0 : (te != 0) = true := bne_iff_ne.mpr c1
  clear c1
  cases H
  go_wp2
  go_ret2
  exact ⟨_, rfl, Kd.R_nil _ _ _ _ _, bel⟩

/-! ### dropperref05_section: function 58 -/
def dropperref05_section.f (a0_0 : Int) (l0_1 : List (S69)) (l0_2 : List (S71)) (a1 : Int) : Option (Bool) := if a1 ≥ 0 then (some (decide (a1 < a0_0))) else (some false)
set_option maxHeartbeats 8000000 in
set_option maxRecDepth 100000 in
theorem dropperref05_section.calls (a0_0 : Int) (A0_1 : Option Addr) (c0_1 : Nat) (l0_1 : List (S69)) (A0_2 : Option Addr) (c0_2 : Nat) (l0_2 : List (S71)) (a1 : Int) (r : Bool) (w : World) (hr0_1 : Kd.C k69 w A0_1 l0_1.length l0_1) (hc0_1 : l0_1.length ≤ c0_1) (hr0_2 : Kd.C k71 w A0_2 l0_2.length l0_2) (hc0_2 : l0_2.length ≤ c0_2) (h : dropperref05_section.f a0_0 l0_1 l0_2 a1 = some r) :
  Calls Tryd.prog 58 #[.agg #[.int .i64 a0_0, .slice A0_1 l0_1.length c0_1, .slice A0_2 l0_2.length c0_2], .int .i64 a1] w fun e w' => e = .returned (.bool r) ∧ Below w.heap.size w w' := by
 have hu25 := Tryd.underlying25
 have HR0_1 := Aside0.mk hr0_1
 have HC0_1 := Aside0.mk hc0_1
 clear hr0_1 hc0_1
 have HR0_2 := Aside0.mk hr0_2
 have HC0_2 := Aside0.mk hc0_2
 clear hr0_2 hc0_2
 have HB := Aside0.mk (Below.refl w.heap.size w)
 have H : (if a1 ≥ 0 then (some (decide (a1 < a0_0))) else (some false)) = some r := h
 clear h
 by_cases c3 : a1 ≥ 0
 ·
  rw [if_pos c3] at H
  have c3b0 : decide (0 ≤ a1) = true := decide_eq_true c3
  clear c3
  obtain rfl := Option.some.inj H
  go_enter Tryd.func58, Tryd.ntmps58
  go_wp2_with (first | ((with_reducible refine gate_dst (N := 2) rfl ?_); refine box_event ?hg (N := 2) ?hd (cs := #[.int .i64 a0_0, .slice A0_1 l0_1.length c0_1, .slice A0_2 l0_2.length c0_2]) (t := 25) ?hr ?_; (case hd => rfl); (case hg => rfl); (case hr => first | (go_simp; done) | (go_simp; rfl)); intro gb234 hg w4 hbox hb; have BK234 := Aside0.mk (hbox); have GW234 := bsz (w := w) hg; have GE234 := GW234; replace HB := Aside0.mk (below_step bel hb); clear hb hbox hg; have hcz5_0 := blkc BK234.out 0 (.int .i64 a0_0) rfl; have hcz5_1 := blkc BK234.out 1 (.slice A0_1 l0_1.length c0_1) rfl; have hcz5_2 := blkc BK234.out 2 (.slice A0_2 l0_2.length c0_2) rfl))
  go_ret
  exact ⟨ezz, bel⟩
 ·
  rw [if_neg c3] at H
  have c3b0 : decide (0 ≤ a1) = false := decide_eq_false c3
  clear c3
  obtain rfl := Option.some.inj H
  go_enter Tryd.func58, Tryd.ntmps58
  go_wp2_with (first | ((with_reducible refine gate_dst (N := 2) rfl ?_); refine box_event ?hg (N := 2) ?hd (cs := #[.int .i64 a0_0, .slice A0_1 l0_1.length c0_1, .slice A0_2 l0_2.length c0_2]) (t := 25) ?hr ?_; (case hd => rfl); (case hg => rfl); (case hr => first | (go_simp; done) | (go_simp; rfl)); intro gb234 hg w6 hbox hb; have BK234 := Aside0.mk (hbox); have GW234 := bsz (w := w) hg; have GE234 := GW234; replace HB := Aside0.mk (below_step bel hb); clear hb hbox hg))
  go_ret
  exact ⟨ezz, bel⟩

/-! ### dropperref05_Valid: function 20 -/
mutual
def dropperref05_Valid.j0 : Nat → Bool → Int → List (S69) → List (S71) → Option (Bool)
 | 0, _, _, _, _ => none
 | k + 1, x26, x236000, x236001, x236002 => if x26 = true then (some false) else (dropperref05_Valid.l0 k 0 x236000 x236001 x236002)
def dropperref05_Valid.l0 : Nat → Int → Int → List (S69) → List (S71) → Option (Bool)
 | 0, _, _, _, _ => none
 | k + 1, x3, x236000, x236001, x236002 => if x3 < (x236001.length : Int) then (if 0 ≤ x3 then ((dropperref05_section.f x236000 x236001 x236002 ((rd_T69 x236001 x3).f0)).bind fun t238 => (if t238 = true then ((dropperref05_section.f x236000 x236001 x236002 ((rd_T69 x236001 x3).f1)).bind fun t239 => (if t239 = true then (if ((rd_T69 x236001 x3).f0) = ((rd_T69 x236001 x3).f1) then (some false) else (dropperref05_Valid.l0 k (wrap64 (x3 + 1)) x236000 x236001 x236002)) else (some false))) else (some false))) else (none)) else (dropperref05_Valid.l1 k 0 x236000 x236001 x236002)
def dropperref05_Valid.l1 : Nat → Int → Int → List (S69) → List (S71) → Option (Bool)
 | 0, _, _, _, _ => none
 | k + 1, x5, x236000, x236001, x236002 => if x5 < (x236002.length : Int) then (if 0 ≤ x5 then ((dropperref05_section.f x236000 x236001 x236002 ((rd_T71 x236002 x5).f0)).bind fun t242 => (if t242 = true then (if ((rd_T71 x236002 x5).f1) < 1 then (some false) else (if ((rd_T71 x236002 x5).f1) > 3 then (some false) else (dropperref05_Valid.l1 k (wrap64 (x5 + 1)) x236000 x236001 x236002))) else (some false))) else (none)) else (some true)
end
def dropperref05_Valid.f (k : Nat) (a0_0 : Int) (l0_1 : List (S69)) (l0_2 : List (S71)) : Option (Bool) := if a0_0 < 1 then (dropperref05_Valid.j0 k true a0_0 l0_1 l0_2) else (if a0_0 > 8 then (dropperref05_Valid.j0 k true a0_0 l0_1 l0_2) else (if (l0_1.length : Int) > 10 then (dropperref05_Valid.j0 k true a0_0 l0_1 l0_2) else (dropperref05_Valid.j0 k (decide ((l0_2.length : Int) > 6)) a0_0 l0_1 l0_2)))
theorem dropperref05_Valid.mono_l : ∀ k, (∀ y0 y1 y2 y3, LeO (dropperref05_Valid.j0 k y0 y1 y2 y3) (dropperref05_Valid.j0 (k + 1) y0 y1 y2 y3)) ∧ (∀ y0 y1 y2 y3, LeO (dropperref05_Valid.l0 k y0 y1 y2 y3) (dropperref05_Valid.l0 (k + 1) y0 y1 y2 y3)) ∧ (∀ y0 y1 y2 y3, LeO (dropperref05_Valid.l1 k y0 y1 y2 y3) (dropperref05_Valid.l1 (k + 1) y0 y1 y2 y3))
 | 0 => ⟨fun _ _ _ _ r h => by simp [dropperref05_Valid.j0] at h, fun _ _ _ _ r h => by simp [dropperref05_Valid.l0] at h, fun _ _ _ _ r h => by simp [dropperref05_Valid.l1] at h⟩
 | k + 1 => by
  obtain ⟨ih0, ih1, ih2⟩ := dropperref05_Valid.mono_l k
  refine ⟨?_, ?_, ?_⟩
  ·
   intro y0 y1 y2 y3
   unfold dropperref05_Valid.j0
   repeat' first
   | (with_reducible exact ih0 _ _ _ _)
   | (with_reducible exact ih1 _ _ _ _)
   | (with_reducible exact ih2 _ _ _ _)
   | (with_reducible exact LeO.refl _)
   | (with_reducible exact LeO.none _)
   | (with_reducible refine LeO.ite ?_ ?_)
   | (with_reducible refine LeO.bind ?_ (fun _ => ?_))
   | exact ih0 _ _ _ _
   | exact ih1 _ _ _ _
   | exact ih2 _ _ _ _
   | exact LeO.none _
   | refine LeO.ite ?_ ?_
   | refine LeO.bind ?_ (fun _ => ?_)
  ·
   intro y0 y1 y2 y3
   unfold dropperref05_Valid.l0
   repeat' first
   | (with_reducible exact ih0 _ _ _ _)
   | (with_reducible exact ih1 _ _ _ _)
   | (with_reducible exact ih2 _ _ _ _)
   | (with_reducible exact LeO.refl _)
   | (with_reducible exact LeO.none _)
   | (with_reducible refine LeO.ite ?_ ?_)
   | (with_reducible refine LeO.bind ?_ (fun _ => ?_))
   | exact ih0 _ _ _ _
   | exact ih1 _ _ _ _
   | exact ih2 _ _ _ _
   | exact LeO.none _
   | refine LeO.ite ?_ ?_
   | refine LeO.bind ?_ (fun _ => ?_)
  ·
   intro y0 y1 y2 y3
   unfold dropperref05_Valid.l1
   repeat' first
   | (with_reducible exact ih0 _ _ _ _)
   | (with_reducible exact ih1 _ _ _ _)
   | (with_reducible exact ih2 _ _ _ _)
   | (with_reducible exact LeO.refl _)
   | (with_reducible exact LeO.none _)
   | (with_reducible refine LeO.ite ?_ ?_)
   | (with_reducible refine LeO.bind ?_ (fun _ => ?_))
   | exact ih0 _ _ _ _
   | exact ih1 _ _ _ _
   | exact ih2 _ _ _ _
   | exact LeO.none _
   | refine LeO.ite ?_ ?_
   | refine LeO.bind ?_ (fun _ => ?_)
theorem dropperref05_Valid.mono : ∀ a0 a1 a2 k, LeO (dropperref05_Valid.f k a0 a1 a2) (dropperref05_Valid.f (k + 1) a0 a1 a2) := by
 intro a0 a1 a2 k
 obtain ⟨ih0, ih1, ih2⟩ := dropperref05_Valid.mono_l k
 unfold dropperref05_Valid.f
 repeat' first
   | (with_reducible exact ih0 _ _ _ _)
   | (with_reducible exact ih1 _ _ _ _)
   | (with_reducible exact ih2 _ _ _ _)
   | (with_reducible exact LeO.refl _)
   | (with_reducible exact LeO.none _)
   | (with_reducible refine LeO.ite ?_ ?_)
   | (with_reducible refine LeO.bind ?_ (fun _ => ?_))
   | exact ih0 _ _ _ _
   | exact ih1 _ _ _ _
   | exact ih2 _ _ _ _
   | exact LeO.none _
   | refine LeO.ite ?_ ?_
   | refine LeO.bind ?_ (fun _ => ?_)
set_option maxHeartbeats 8000000 in
set_option maxRecDepth 100000 in
theorem dropperref05_Valid.calls (k : Nat) (a0_0 : Int) (A0_1 : Option Addr) (c0_1 : Nat) (l0_1 : List (S69)) (A0_2 : Option Addr) (c0_2 : Nat) (l0_2 : List (S71)) (r : Bool) (w : World) (hr0_1 : Kd.C k69 w A0_1 l0_1.length l0_1) (hc0_1 : l0_1.length ≤ c0_1) (hr0_2 : Kd.C k71 w A0_2 l0_2.length l0_2) (hc0_2 : l0_2.length ≤ c0_2) (h : dropperref05_Valid.f k a0_0 l0_1 l0_2 = some r) :
  Calls Tryd.prog 20 #[.agg #[.int .i64 a0_0, .slice A0_1 l0_1.length c0_1, .slice A0_2 l0_2.length c0_2]] w fun e w' => e = .returned (.bool r) ∧ Below w.heap.size w w' := by
 have hu25 := Tryd.underlying25
 have hu69 := Tryd.underlying69
 have hu71 := Tryd.underlying71
 have HR0_1 := Aside0.mk hr0_1
 have HC0_1 := Aside0.mk hc0_1
 clear hr0_1 hc0_1
 have HR0_2 := Aside0.mk hr0_2
 have HC0_2 := Aside0.mk hc0_2
 clear hr0_2 hc0_2
 have HB := Aside0.mk (Below.refl w.heap.size w)
 have H : (if a0_0 < 1 then (dropperref05_Valid.j0 k true a0_0 l0_1 l0_2) else (if a0_0 > 8 then (dropperref05_Valid.j0 k true a0_0 l0_1 l0_2) else (if (l0_1.length : Int) > 10 then (dropperref05_Valid.j0 k true a0_0 l0_1 l0_2) else (dropperref05_Valid.j0 k (decide ((l0_2.length : Int) > 6)) a0_0 l0_1 l0_2)))) = some r := h
 clear h
 have HC2 := Aside0.mk H
 clear H
 go_enter Tryd.func20, Tryd.ntmps20
 go_upto_region 1 with (first | ((with_reducible refine gate_dst (N := 1) rfl ?_); (try (refine gate_guard (by rfl) ?_; dsimp only)); refine box_event ?hg (N := 1) ?hd (cs := #[.int .i64 a0_0, .slice A0_1 l0_1.length c0_1, .slice A0_2 l0_2.length c0_2]) (t := 25) ?hr ?_; (case hd => rfl); (case hg => rfl); (case hr => first | (go_simp; done) | (go_simp; rfl)); intro gb235 hg w3 hbox hb; have BK235 := Aside0.mk (hbox); have GW235 := bsz (w := w) hg; have GE235 := GW235; replace HB := Aside0.mk (below_step bel hb); clear hb hbox hg))
 (try simp only [Act.put, List.setIfInBounds_toArray, List.set_cons_zero, List.set_cons_succ])
 go_cut [26] (fun v26 wc => ∃ (kq : Nat) (x26_1 : Bool), v26 = .bool x26_1 ∧ Aside0 (dropperref05_Valid.j0 kq x26_1 a0_0 l0_1 l0_2 = some r) ∧ Aside0 (kq ≤ k) ∧ Aside0 (wc.heap[gb235]? = some (.cells #[.int .i64 a0_0, (.slice A0_1 l0_1.length c0_1), (.slice A0_2 l0_2.length c0_2)] 25 (0, 0))) ∧ Aside0 (Below w.heap.size w wc))
 case first =>
  have H := HC2.out
  clear HC2
  by_cases c4 : a0_0 < 1
  ·
   rw [if_pos c4] at H
   have c4b0 : decide (a0_0 < 1) = true := decide_eq_true c4
   clear c4
   (first | rw [c4b0] | (simp only [i64_w, i32_w]; rw [c4b0]) | skip)
   have H' := Aside0.mk H
   clear H
   have hcz5_0 := blkc BK235.out 0 (.int .i64 a0_0) rfl
   have hcz5_1 := blkc BK235.out 1 (.slice A0_1 l0_1.length c0_1) rfl
   have hcz5_2 := blkc BK235.out 2 (.slice A0_2 l0_2.length c0_2) rfl
   have hfz5_0 := blk_frozen BK235.out 0
   have hfz5_1 := blk_frozen BK235.out 1
   have hfz5_2 := blk_frozen BK235.out 2
   go_wp2
   go_meet
   case rel => exact ⟨_, (true), rsz, H', ⟨by first | omega | exact Nat.le_refl _⟩, ⟨blkz⟩, ⟨bel⟩⟩
  ·
   rw [if_neg c4] at H
   have c4b0 : decide (a0_0 < 1) = false := decide_eq_false c4
   clear c4
   (first | rw [c4b0] | (simp only [i64_w, i32_w]; rw [c4b0]) | skip)
   by_cases c6 : a0_0 > 8
   ·
    rw [if_pos c6] at H
    have c6b0 : decide (8 < a0_0) = true := decide_eq_true c6
    clear c6
    have H' := Aside0.mk H
    clear H
    have hcz7_0 := blkc BK235.out 0 (.int .i64 a0_0) rfl
    have hcz7_1 := blkc BK235.out 1 (.slice A0_1 l0_1.length c0_1) rfl
    have hcz7_2 := blkc BK235.out 2 (.slice A0_2 l0_2.length c0_2) rfl
    have hfz7_0 := blk_frozen BK235.out 0
    have hfz7_1 := blk_frozen BK235.out 1
    have hfz7_2 := blk_frozen BK235.out 2
    go_wp2
    go_meet
    case rel => exact ⟨_, (true), rsz, H', ⟨by first | omega | exact Nat.le_refl _⟩, ⟨blkz⟩, ⟨bel⟩⟩
   ·
    rw [if_neg c6] at H
    have c6b0 : decide (8 < a0_0) = false := decide_eq_false c6
    clear c6
    by_cases c8 : (l0_1.length : Int) > 10
    ·
     rw [if_pos c8] at H
     have c8b0 : decide (10 < (l0_1.length : Int)) = true := decide_eq_true c8
     have c8b1 : decide (10 < l0_1.length) = true := decide_eq_true (by omega)
     clear c8
     have H' := Aside0.mk H
     clear H
     have hcz9_0 := blkc BK235.out 0 (.int .i64 a0_0) rfl
     have hcz9_1 := blkc BK235.out 1 (.slice A0_1 l0_1.length c0_1) rfl
     have hcz9_2 := blkc BK235.out 2 (.slice A0_2 l0_2.length c0_2) rfl
     have hfz9_0 := blk_frozen BK235.out 0
     have hfz9_1 := blk_frozen BK235.out 1
     have hfz9_2 := blk_frozen BK235.out 2
     go_wp2
     go_meet
     case rel => exact ⟨_, (true), rsz, H', ⟨by first | omega | exact Nat.le_refl _⟩, ⟨blkz⟩, ⟨bel⟩⟩
    ·
     rw [if_neg c8] at H
     have c8b0 : decide (10 < (l0_1.length : Int)) = false := decide_eq_false c8
     have c8b1 : decide (10 < l0_1.length) = false := decide_eq_false (by omega)
     clear c8
     have H' := Aside0.mk H
     clear H
     have hcz10_0 := blkc BK235.out 0 (.int .i64 a0_0) rfl
     have hcz10_1 := blkc BK235.out 1 (.slice A0_1 l0_1.length c0_1) rfl
     have hcz10_2 := blkc BK235.out 2 (.slice A0_2 l0_2.length c0_2) rfl
     have hfz10_0 := blk_frozen BK235.out 0
     have hfz10_1 := blk_frozen BK235.out 1
     have hfz10_2 := blk_frozen BK235.out 2
     go_wp2
     go_meet
     case rel => exact ⟨_, (decide ((l0_2.length : Int) > 6)), rsz, H', ⟨by first | omega | exact Nat.le_refl _⟩, ⟨blkz⟩, ⟨bel⟩⟩
 case rest =>
  clear HC2
  try clear c2
  try clear p2
  try clear c4
  try clear c4b0
  try clear c6
  try clear c6b0
  try clear c8
  try clear c8b0
  try clear c8b1
  try clear hcz10_0
  try clear hcz10_1
  try clear hcz10_2
  try clear hcz5_0
  try clear hcz5_1
  try clear hcz5_2
  try clear hcz7_0
  try clear hcz7_1
  try clear hcz7_2
  try clear hcz9_0
  try clear hcz9_1
  try clear hcz9_2
  try clear hfz10_0
  try clear hfz10_1
  try clear hfz10_2
  try clear hfz5_0
  try clear hfz5_1
  try clear hfz5_2
  try clear hfz7_0
  try clear hfz7_1
  try clear hfz7_2
  try clear hfz9_0
  try clear hfz9_1
  try clear hfz9_2
  obtain ⟨kq, x26_1, rfl, HA, HJ1, BK235, HB⟩ := hcut
  cases kq with
  | zero => exact absurd HA.out (by simp [dropperref05_Valid.j0])
  | succ kj1 =>
   have H := HA.out
   clear HA
   simp only [dropperref05_Valid.j0] at H
   by_cases c11 : x26_1 = true
   ·
    subst c11
    have H1 : (some false) = some r := by rw [if_pos rfl] at H; exact H
    clear H
    have H := H1
    clear H1
    obtain rfl := Option.some.inj H
    go_wp2
    go_ret
    exact ⟨ezz, bel⟩
   ·
    replace c11 := Bool.eq_false_iff.mpr c11
    subst c11
    have H1 : (dropperref05_Valid.l0 kj1 0 a0_0 l0_1 l0_2) = some r := by rw [if_neg (show ¬ (false = true) by decide)] at H; exact H
    clear H
    have H := H1
    clear H1
    have H' := Aside0.mk H
    clear H
    go_wp2
    go_loopg [3] kj1 (fun kq v3 w' => ∃ (x3_2 : Int), v3 = .int .i64 x3_2 ∧ Aside0 (dropperref05_Valid.l0 kq x3_2 a0_0 l0_1 l0_2 = some r) ∧ Aside0 (kq ≤ kj1) ∧ Aside0 (w'.heap[gb235]? = some (.cells #[.int .i64 a0_0, (.slice A0_1 l0_1.length c0_1), (.slice A0_2 l0_2.length c0_2)] 25 (0, 0))) ∧ Aside0 (Below w.heap.size w w'))
    case atStart => exact ⟨(0), rsz, H', ⟨Nat.le_refl _⟩, ⟨blkz⟩, ⟨bel⟩⟩
    case round =>
     clear H'
     try clear c1
     try clear c2
     try clear p2
     try clear c4
     try clear c4b0
     try clear c6
     try clear c6b0
     try clear c8
     try clear c8b0
     try clear c8b1
     try clear c11
     try clear hcz10_0
     try clear hcz10_1
     try clear hcz10_2
     try clear hcz5_0
     try clear hcz5_1
     try clear hcz5_2
     try clear hcz7_0
     try clear hcz7_1
     try clear hcz7_2
     try clear hcz9_0
     try clear hcz9_1
     try clear hcz9_2
     try clear hfz10_0
     try clear hfz10_1
     try clear hfz10_2
     try clear hfz5_0
     try clear hfz5_1
     try clear hfz5_2
     try clear hfz7_0
     try clear hfz7_1
     try clear hfz7_2
     try clear hfz9_0
     try clear hfz9_1
     try clear hfz9_2
     try clear p2
     obtain ⟨x3_2, rfl, HA, HK2, BK235, HB⟩ := hrel
     cases gk with
     | zero => exact absurd HA.out (by simp [dropperref05_Valid.l0])
     | succ k2 =>
      have H := HA.out
      clear HA
      simp only [dropperref05_Valid.l0] at H
      by_cases c12 : x3_2 < (l0_1.length : Int)
      ·
       rw [if_pos c12] at H
       have c12b0 : decide (x3_2 < (l0_1.length : Int)) = true := decide_eq_true c12
       clear c12
       by_cases c13 : 0 ≤ x3_2
       ·
        rw [if_pos c13] at H
        have c13b0 : decide (0 ≤ x3_2) = true := decide_eq_true c13
        clear c13
        replace H := Option.bind_eq_some_iff.mp H
        obtain ⟨t238, A140, H⟩ := H
        replace H : (if t238 = true then ((dropperref05_section.f a0_0 l0_1 l0_2 ((rd_T69 l0_1 x3_2).f1)).bind fun t239 => (if t239 = true then (if ((rd_T69 l0_1 x3_2).f0) = ((rd_T69 l0_1 x3_2).f1) then (some false) else (dropperref05_Valid.l0 k2 (wrap64 (x3_2 + 1)) a0_0 l0_1 l0_2)) else (some false))) else (some false)) = some r := H
        have A14 := Aside0.mk A140
        clear A140
        by_cases c15 : t238 = true
        ·
         subst c15
         have H1 : ((dropperref05_section.f a0_0 l0_1 l0_2 ((rd_T69 l0_1 x3_2).f1)).bind fun t239 => (if t239 = true then (if ((rd_T69 l0_1 x3_2).f0) = ((rd_T69 l0_1 x3_2).f1) then (some false) else (dropperref05_Valid.l0 k2 (wrap64 (x3_2 + 1)) a0_0 l0_1 l0_2)) else (some false))) = some r := by rw [if_pos rfl] at H; exact H
         clear H
         have H := H1
         clear H1
         replace H := Option.bind_eq_some_iff.mp H
         obtain ⟨t239, A160, H⟩ := H
         replace H : (if t239 = true then (if ((rd_T69 l0_1 x3_2).f0) = ((rd_T69 l0_1 x3_2).f1) then (some false) else (dropperref05_Valid.l0 k2 (wrap64 (x3_2 + 1)) a0_0 l0_1 l0_2)) else (some false)) = some r := H
         have A16 := Aside0.mk A160
         clear A160
         by_cases c17 : t239 = true
         ·
          subst c17
          have H1 : (if ((rd_T69 l0_1 x3_2).f0) = ((rd_T69 l0_1 x3_2).f1) then (some false) else (dropperref05_Valid.l0 k2 (wrap64 (x3_2 + 1)) a0_0 l0_1 l0_2)) = some r := by rw [if_pos rfl] at H; exact H
          clear H
          have H := H1
          clear H1
          by_cases c18 : ((rd_T69 l0_1 x3_2).f0) = ((rd_T69 l0_1 x3_2).f1)
          ·
           rw [if_pos c18] at H
           have c18b0 : (((rd_T69 l0_1 x3_2).f0) == ((rd_T69 l0_1 x3_2).f1)) = true := beq_iff_eq.mpr c18
           have c18b1 : (((rd_T69 l0_1 x3_2).f0) != ((rd_T69 l0_1 x3_2).f1)) = false := bne_eq_false_iff_eq.mpr c18
           clear c18
           obtain rfl := Option.some.inj H
           have hcz19_0 := blkc BK235.out 0 (.int .i64 a0_0) rfl
           have hcz19_1 := blkc BK235.out 1 (.slice A0_1 l0_1.length c0_1) rfl
           have hcz19_2 := blkc BK235.out 2 (.slice A0_2 l0_2.length c0_2) rfl
           have hfz19_0 := blk_frozen BK235.out 0
           have hfz19_1 := blk_frozen BK235.out 1
           have hfz19_2 := blk_frozen BK235.out 2
           have p236 : 0 ≤ (x3_2 : Int) := of_decide_eq_true asz
           have q236 : x3_2 < (l0_1.length : Int) := of_decide_eq_true asz
           obtain ⟨ad236, e236, hx236_0, hx236_1⟩ := at_T69 HR0_1.out x3_2 p236 q236
           cases e236
           replace hx236_0 := (HB.out.cell (World.block_lt_of_cell? w _ hx236_0)).trans hx236_0
           replace hx236_1 := (HB.out.cell (World.block_lt_of_cell? w _ hx236_1)).trans hx236_1
           replace p236 := eq_true p236
           replace q236 := eq_true q236
           go_wp2_with (first | ((with_reducible refine gate_dst (N := 4) rfl ?_); (try (refine gate_guard (by rfl) ?_; dsimp only)); refine box_event ?hg (N := 4) ?hd (cs := #[.int .i64 0, .int .i64 0]) (t := 69) ?hr ?_; (case hd => rfl); (case hg => rfl); (case hr => first | (go_simp; done) | (go_simp; rfl)); intro gb237 hg w20 hbox hb; have BK237 := Aside0.mk (hbox); have GW237 := bsz (w := w) hg; have GE237 := GW237; have NB235_237 := neL (g := gb235) hg; have NB237_235 := neR (g := gb235) hg; replace BK235 := Aside0.mk (blk_below (g := gb235) blkz hb); replace HB := Aside0.mk (below_step bel hb); clear hb hbox hg; have hnb21 := NB237_235.out; have hnc21 := NB235_237.out; have hcz22_0 := blkc BK237.out 0 (.int .i64 0) rfl; have hcz22_1 := blkc BK237.out 1 (.int .i64 0) rfl; have hfz22_0 := blk_frozen BK237.out 0; have hfz22_1 := blk_frozen BK237.out 1; have hcz23_0 := blkc BK235.out 0 (.int .i64 a0_0) rfl; have hcz23_1 := blkc BK235.out 1 (.slice (some ad236) l0_1.length c0_1) rfl; have hcz23_2 := blkc BK235.out 2 (.slice A0_2 l0_2.length c0_2) rfl) | ((with_reducible refine gate_callee (f := 58) rfl ?_); refine goesL_ (some 42) rfl rfl Tryd.func58 (by kernel_rfl) rfl #[.agg #[.int .i64 a0_0, .slice (some ad236) l0_1.length c0_1, .slice A0_2 l0_2.length c0_2], .int .i64 ((rd_T69 l0_1 x3_2).f0)] rfl mapz ?_; (with_reducible refine (dropperref05_section.calls a0_0 _ _ l0_1 _ _ l0_2 ((rd_T69 l0_1 x3_2).f0) true _ ?side1 ?side2 ?side3 ?side4 A14.out).mono ?_); (case side1 => exact cbz HR0_1); (case side2 => exact HC0_1.out); (case side3 => exact cbz HR0_2); (case side4 => exact HC0_2.out); rintro e w24 ⟨rfl, hb⟩; refine ⟨_, rfl, ?_⟩; replace BK235 := Aside0.mk (blk_below (g := gb235) (o := .cells #[.int .i64 a0_0, .slice (some ad236) l0_1.length c0_1, .slice A0_2 l0_2.length c0_2] 25 (0, 0)) (by (with_reducible repeat (first | refine blk_drewN ?_ _ | refine blk_drew ?_ | refine blk_alloc ?_ _)); refine blk_far ?_ NB235_237.out _; (with_reducible repeat (first | refine blk_drewN ?_ _ | refine blk_drew ?_ | refine blk_alloc ?_ _)); refine blk_far ?_ NB235_237.out _; (with_reducible repeat (first | refine blk_drewN ?_ _ | refine blk_drew ?_ | refine blk_alloc ?_ _)); exact BK235.out) hb); replace BK237 := Aside0.mk (blk_below (g := gb237) (o := .cells #[.int .i64 ((rd_T69 l0_1 x3_2).f0), .int .i64 ((rd_T69 l0_1 x3_2).f1)] 69 (0, 0)) (by (with_reducible repeat (first | refine blk_drewN ?_ _ | refine blk_drew ?_ | refine blk_alloc ?_ _)); refine blk_put (cs := #[.int .i64 ((rd_T69 l0_1 x3_2).f0), .int .i64 0]) ?_ 1 _ rfl; (with_reducible repeat (first | refine blk_drewN ?_ _ | refine blk_drew ?_ | refine blk_alloc ?_ _)); refine blk_put (cs := #[.int .i64 0, .int .i64 0]) ?_ 0 _ rfl; (with_reducible repeat (first | refine blk_drewN ?_ _ | refine blk_drew ?_ | refine blk_alloc ?_ _)); exact BK237.out) hb); replace HB := Aside0.mk (below_step bel hb); (try clear hb); (try clear hb2); (try clear hk); (try clear hi); have hcz25_0 := blkc BK235.out 0 (.int .i64 a0_0) rfl; have hcz25_1 := blkc BK235.out 1 (.slice (some ad236) l0_1.length c0_1) rfl; have hcz25_2 := blkc BK235.out 2 (.slice A0_2 l0_2.length c0_2) rfl; have hcz26_0 := blkc BK237.out 0 (.int .i64 ((rd_T69 l0_1 x3_2).f0)) rfl; have hcz26_1 := blkc BK237.out 1 (.int .i64 ((rd_T69 l0_1 x3_2).f1)) rfl; have hfz26_0 := blk_frozen BK237.out 0; have hfz26_1 := blk_frozen BK237.out 1) | (go_at_call 58; (with_reducible refine (dropperref05_section.calls a0_0 _ _ l0_1 _ _ l0_2 ((rd_T69 l0_1 x3_2).f1) true _ ?side1 ?side2 ?side3 ?side4 A16.out).mono ?_); (case side1 => exact cbz HR0_1); (case side2 => exact HC0_1.out); (case side3 => exact cbz HR0_2); (case side4 => exact HC0_2.out); rintro e w27 ⟨rfl, hb⟩; replace BK235 := Aside0.mk (blk_below (g := gb235) blkz hb); replace BK237 := Aside0.mk (blk_below (g := gb237) blkz hb); replace HB := Aside0.mk (below_step bel hb); (try clear hb); (try clear hb2); (try clear hk); (try clear hi); have hcz28_0 := blkc BK237.out 0 (.int .i64 ((rd_T69 l0_1 x3_2).f0)) rfl; have hcz28_1 := blkc BK237.out 1 (.int .i64 ((rd_T69 l0_1 x3_2).f1)) rfl; have hfz28_0 := blk_frozen BK237.out 0; have hfz28_1 := blk_frozen BK237.out 1))
           go_ret
           exact ⟨ezz, bel⟩
          ·
           rw [if_neg c18] at H
           have c18b0 : (((rd_T69 l0_1 x3_2).f0) == ((rd_T69 l0_1 x3_2).f1)) = false := beq_eq_false_iff_ne.mpr c18
           have c18b1 : (((rd_T69 l0_1 x3_2).f0) != ((rd_T69 l0_1 x3_2).f1)) = true := bne_iff_ne.mpr c18
           have H' := Aside0.mk H
           clear H
           have hcz29_0 := blkc BK235.out 0 (.int .i64 a0_0) rfl
           have hcz29_1 := blkc BK235.out 1 (.slice A0_1 l0_1.length c0_1) rfl
           have hcz29_2 := blkc BK235.out 2 (.slice A0_2 l0_2.length c0_2) rfl
           have hfz29_0 := blk_frozen BK235.out 0
           have hfz29_1 := blk_frozen BK235.out 1
           have hfz29_2 := blk_frozen BK235.out 2
           have p236 : 0 ≤ (x3_2 : Int) := of_decide_eq_true asz
           have q236 : x3_2 < (l0_1.length : Int) := of_decide_eq_true asz
           obtain ⟨ad236, e236, hx236_0, hx236_1⟩ := at_T69 HR0_1.out x3_2 p236 q236
           cases e236
           replace hx236_0 := (HB.out.cell (World.block_lt_of_cell? w _ hx236_0)).trans hx236_0
           replace hx236_1 := (HB.out.cell (World.block_lt_of_cell? w _ hx236_1)).trans hx236_1
           replace p236 := eq_true p236
           replace q236 := eq_true q236
           go_wp2_with (first | ((with_reducible refine gate_dst (N := 4) rfl ?_); (try (refine gate_guard (by rfl) ?_; dsimp only)); refine box_event ?hg (N := 4) ?hd (cs := #[.int .i64 0, .int .i64 0]) (t := 69) ?hr ?_; (case hd => rfl); (case hg => rfl); (case hr => first | (go_simp; done) | (go_simp; rfl)); intro gb237 hg w30 hbox hb; have BK237 := Aside0.mk (hbox); have GW237 := bsz (w := w) hg; have GE237 := GW237; have NB235_237 := neL (g := gb235) hg; have NB237_235 := neR (g := gb235) hg; replace BK235 := Aside0.mk (blk_below (g := gb235) blkz hb); replace HB := Aside0.mk (below_step bel hb); clear hb hbox hg; have hnb31 := NB237_235.out; have hnc31 := NB235_237.out; have hcz32_0 := blkc BK237.out 0 (.int .i64 0) rfl; have hcz32_1 := blkc BK237.out 1 (.int .i64 0) rfl; have hfz32_0 := blk_frozen BK237.out 0; have hfz32_1 := blk_frozen BK237.out 1; have hcz33_0 := blkc BK235.out 0 (.int .i64 a0_0) rfl; have hcz33_1 := blkc BK235.out 1 (.slice (some ad236) l0_1.length c0_1) rfl; have hcz33_2 := blkc BK235.out 2 (.slice A0_2 l0_2.length c0_2) rfl) | ((with_reducible refine gate_callee (f := 58) rfl ?_); refine goesL_ (some 42) rfl rfl Tryd.func58 (by kernel_rfl) rfl #[.agg #[.int .i64 a0_0, .slice (some ad236) l0_1.length c0_1, .slice A0_2 l0_2.length c0_2], .int .i64 ((rd_T69 l0_1 x3_2).f0)] rfl mapz ?_; (with_reducible refine (dropperref05_section.calls a0_0 _ _ l0_1 _ _ l0_2 ((rd_T69 l0_1 x3_2).f0) true _ ?side1 ?side2 ?side3 ?side4 A14.out).mono ?_); (case side1 => exact cbz HR0_1); (case side2 => exact HC0_1.out); (case side3 => exact cbz HR0_2); (case side4 => exact HC0_2.out); rintro e w34 ⟨rfl, hb⟩; refine ⟨_, rfl, ?_⟩; replace BK235 := Aside0.mk (blk_below (g := gb235) (o := .cells #[.int .i64 a0_0, .slice (some ad236) l0_1.length c0_1, .slice A0_2 l0_2.length c0_2] 25 (0, 0)) (by (with_reducible repeat (first | refine blk_drewN ?_ _ | refine blk_drew ?_ | refine blk_alloc ?_ _)); refine blk_far ?_ NB235_237.out _; (with_reducible repeat (first | refine blk_drewN ?_ _ | refine blk_drew ?_ | refine blk_alloc ?_ _)); refine blk_far ?_ NB235_237.out _; (with_reducible repeat (first | refine blk_drewN ?_ _ | refine blk_drew ?_ | refine blk_alloc ?_ _)); exact BK235.out) hb); replace BK237 := Aside0.mk (blk_below (g := gb237) (o := .cells #[.int .i64 ((rd_T69 l0_1 x3_2).f0), .int .i64 ((rd_T69 l0_1 x3_2).f1)] 69 (0, 0)) (by (with_reducible repeat (first | refine blk_drewN ?_ _ | refine blk_drew ?_ | refine blk_alloc ?_ _)); refine blk_put (cs := #[.int .i64 ((rd_T69 l0_1 x3_2).f0), .int .i64 0]) ?_ 1 _ rfl; (with_reducible repeat (first | refine blk_drewN ?_ _ | refine blk_drew ?_ | refine blk_alloc ?_ _)); refine blk_put (cs := #[.int .i64 0, .int .i64 0]) ?_ 0 _ rfl; (with_reducible repeat (first | refine blk_drewN ?_ _ | refine blk_drew ?_ | refine blk_alloc ?_ _)); exact BK237.out) hb); replace HB := Aside0.mk (below_step bel hb); (try clear hb); (try clear hb2); (try clear hk); (try clear hi); have hcz35_0 := blkc BK235.out 0 (.int .i64 a0_0) rfl; have hcz35_1 := blkc BK235.out 1 (.slice (some ad236) l0_1.length c0_1) rfl; have hcz35_2 := blkc BK235.out 2 (.slice A0_2 l0_2.length c0_2) rfl; have hcz36_0 := blkc BK237.out 0 (.int .i64 ((rd_T69 l0_1 x3_2).f0)) rfl; have hcz36_1 := blkc BK237.out 1 (.int .i64 ((rd_T69 l0_1 x3_2).f1)) rfl; have hfz36_0 := blk_frozen BK237.out 0; have hfz36_1 := blk_frozen BK237.out 1) | (go_at_call 58; (with_reducible refine (dropperref05_section.calls a0_0 _ _ l0_1 _ _ l0_2 ((rd_T69 l0_1 x3_2).f1) true _ ?side1 ?side2 ?side3 ?side4 A16.out).mono ?_); (case side1 => exact cbz HR0_1); (case side2 => exact HC0_1.out); (case side3 => exact cbz HR0_2); (case side4 => exact HC0_2.out); rintro e w37 ⟨rfl, hb⟩; replace BK235 := Aside0.mk (blk_below (g := gb235) blkz hb); replace BK237 := Aside0.mk (blk_below (g := gb237) blkz hb); replace HB := Aside0.mk (below_step bel hb); (try clear hb); (try clear hb2); (try clear hk); (try clear hi); have hcz38_0 := blkc BK237.out 0 (.int .i64 ((rd_T69 l0_1 x3_2).f0)) rfl; have hcz38_1 := blkc BK237.out 1 (.int .i64 ((rd_T69 l0_1 x3_2).f1)) rfl; have hfz38_0 := blk_frozen BK237.out 0; have hfz38_1 := blk_frozen BK237.out 1))
           go_roundg k2
           case measure => have := HJ1.out; have := HK2.out; omega
           case rel => exact ⟨(wrap64 (x3_2 + 1)), rsz, H', ⟨by have := HJ1.out; have := HK2.out; omega⟩, ⟨blkz⟩, ⟨bel⟩⟩
         ·
          replace c17 := Bool.eq_false_iff.mpr c17
          subst c17
          have H1 : (some false) = some r := by rw [if_neg (show ¬ (false = true) by decide)] at H; exact H
          clear H
          have H := H1
          clear H1
          obtain rfl := Option.some.inj H
          have hcz39_0 := blkc BK235.out 0 (.int .i64 a0_0) rfl
          have hcz39_1 := blkc BK235.out 1 (.slice A0_1 l0_1.length c0_1) rfl
          have hcz39_2 := blkc BK235.out 2 (.slice A0_2 l0_2.length c0_2) rfl
          have hfz39_0 := blk_frozen BK235.out 0
          have hfz39_1 := blk_frozen BK235.out 1
          have hfz39_2 := blk_frozen BK235.out 2
          have p236 : 0 ≤ (x3_2 : Int) := of_decide_eq_true asz
          have q236 : x3_2 < (l0_1.length : Int) := of_decide_eq_true asz
          obtain ⟨ad236, e236, hx236_0, hx236_1⟩ := at_T69 HR0_1.out x3_2 p236 q236
          cases e236
          replace hx236_0 := (HB.out.cell (World.block_lt_of_cell? w _ hx236_0)).trans hx236_0
          replace hx236_1 := (HB.out.cell (World.block_lt_of_cell? w _ hx236_1)).trans hx236_1
          replace p236 := eq_true p236
          replace q236 := eq_true q236
          go_wp2_with (first | ((with_reducible refine gate_dst (N := 4) rfl ?_); (try (refine gate_guard (by rfl) ?_; dsimp only)); refine box_event ?hg (N := 4) ?hd (cs := #[.int .i64 0, .int .i64 0]) (t := 69) ?hr ?_; (case hd => rfl); (case hg => rfl); (case hr => first | (go_simp; done) | (go_simp; rfl)); intro gb237 hg w40 hbox hb; have BK237 := Aside0.mk (hbox); have GW237 := bsz (w := w) hg; have GE237 := GW237; have NB235_237 := neL (g := gb235) hg; have NB237_235 := neR (g := gb235) hg; replace BK235 := Aside0.mk (blk_below (g := gb235) blkz hb); replace HB := Aside0.mk (below_step bel hb); clear hb hbox hg; have hnb41 := NB237_235.out; have hnc41 := NB235_237.out; have hcz42_0 := blkc BK237.out 0 (.int .i64 0) rfl; have hcz42_1 := blkc BK237.out 1 (.int .i64 0) rfl; have hfz42_0 := blk_frozen BK237.out 0; have hfz42_1 := blk_frozen BK237.out 1; have hcz43_0 := blkc BK235.out 0 (.int .i64 a0_0) rfl; have hcz43_1 := blkc BK235.out 1 (.slice (some ad236) l0_1.length c0_1) rfl; have hcz43_2 := blkc BK235.out 2 (.slice A0_2 l0_2.length c0_2) rfl) | ((with_reducible refine gate_callee (f := 58) rfl ?_); refine goesL_ (some 42) rfl rfl Tryd.func58 (by kernel_rfl) rfl #[.agg #[.int .i64 a0_0, .slice (some ad236) l0_1.length c0_1, .slice A0_2 l0_2.length c0_2], .int .i64 ((rd_T69 l0_1 x3_2).f0)] rfl mapz ?_; (with_reducible refine (dropperref05_section.calls a0_0 _ _ l0_1 _ _ l0_2 ((rd_T69 l0_1 x3_2).f0) true _ ?side1 ?side2 ?side3 ?side4 A14.out).mono ?_); (case side1 => exact cbz HR0_1); (case side2 => exact HC0_1.out); (case side3 => exact cbz HR0_2); (case side4 => exact HC0_2.out); rintro e w44 ⟨rfl, hb⟩; refine ⟨_, rfl, ?_⟩; replace BK235 := Aside0.mk (blk_below (g := gb235) (o := .cells #[.int .i64 a0_0, .slice (some ad236) l0_1.length c0_1, .slice A0_2 l0_2.length c0_2] 25 (0, 0)) (by (with_reducible repeat (first | refine blk_drewN ?_ _ | refine blk_drew ?_ | refine blk_alloc ?_ _)); refine blk_far ?_ NB235_237.out _; (with_reducible repeat (first | refine blk_drewN ?_ _ | refine blk_drew ?_ | refine blk_alloc ?_ _)); refine blk_far ?_ NB235_237.out _; (with_reducible repeat (first | refine blk_drewN ?_ _ | refine blk_drew ?_ | refine blk_alloc ?_ _)); exact BK235.out) hb); replace BK237 := Aside0.mk (blk_below (g := gb237) (o := .cells #[.int .i64 ((rd_T69 l0_1 x3_2).f0), .int .i64 ((rd_T69 l0_1 x3_2).f1)] 69 (0, 0)) (by (with_reducible repeat (first | refine blk_drewN ?_ _ | refine blk_drew ?_ | refine blk_alloc ?_ _)); refine blk_put (cs := #[.int .i64 ((rd_T69 l0_1 x3_2).f0), .int .i64 0]) ?_ 1 _ rfl; (with_reducible repeat (first | refine blk_drewN ?_ _ | refine blk_drew ?_ | refine blk_alloc ?_ _)); refine blk_put (cs := #[.int .i64 0, .int .i64 0]) ?_ 0 _ rfl; (with_reducible repeat (first | refine blk_drewN ?_ _ | refine blk_drew ?_ | refine blk_alloc ?_ _)); exact BK237.out) hb); replace HB := Aside0.mk (below_step bel hb); (try clear hb); (try clear hb2); (try clear hk); (try clear hi); have hcz45_0 := blkc BK235.out 0 (.int .i64 a0_0) rfl; have hcz45_1 := blkc BK235.out 1 (.slice (some ad236) l0_1.length c0_1) rfl; have hcz45_2 := blkc BK235.out 2 (.slice A0_2 l0_2.length c0_2) rfl; have hcz46_0 := blkc BK237.out 0 (.int .i64 ((rd_T69 l0_1 x3_2).f0)) rfl; have hcz46_1 := blkc BK237.out 1 (.int .i64 ((rd_T69 l0_1 x3_2).f1)) rfl; have hfz46_0 := blk_frozen BK237.out 0; have hfz46_1 := blk_frozen BK237.out 1) | (go_at_call 58; (with_reducible refine (dropperref05_section.calls a0_0 _ _ l0_1 _ _ l0_2 ((rd_T69 l0_1 x3_2).f1) false _ ?side1 ?side2 ?side3 ?side4 A16.out).mono ?_); (case side1 => exact cbz HR0_1); (case side2 => exact HC0_1.out); (case side3 => exact cbz HR0_2); (case side4 => exact HC0_2.out); rintro e w47 ⟨rfl, hb⟩; replace BK235 := Aside0.mk (blk_below (g := gb235) blkz hb); replace BK237 := Aside0.mk (blk_below (g := gb237) blkz hb); replace HB := Aside0.mk (below_step bel hb); (try clear hb); (try clear hb2); (try clear hk); (try clear hi)))
          go_ret
          exact ⟨ezz, bel⟩
        ·
         replace c15 := Bool.eq_false_iff.mpr c15
         subst c15
         have H1 : (some false) = some r := by rw [if_neg (show ¬ (false = true) by decide)] at H; exact H
         clear H
         have H := H1
         clear H1
         obtain rfl := Option.some.inj H
         have hcz48_0 := blkc BK235.out 0 (.int .i64 a0_0) rfl
         have hcz48_1 := blkc BK235.out 1 (.slice A0_1 l0_1.length c0_1) rfl
         have hcz48_2 := blkc BK235.out 2 (.slice A0_2 l0_2.length c0_2) rfl
         have hfz48_0 := blk_frozen BK235.out 0
         have hfz48_1 := blk_frozen BK235.out 1
         have hfz48_2 := blk_frozen BK235.out 2
         have p236 : 0 ≤ (x3_2 : Int) := of_decide_eq_true asz
         have q236 : x3_2 < (l0_1.length : Int) := of_decide_eq_true asz
         obtain ⟨ad236, e236, hx236_0, hx236_1⟩ := at_T69 HR0_1.out x3_2 p236 q236
         cases e236
         replace hx236_0 := (HB.out.cell (World.block_lt_of_cell? w _ hx236_0)).trans hx236_0
         replace hx236_1 := (HB.out.cell (World.block_lt_of_cell? w _ hx236_1)).trans hx236_1
         replace p236 := eq_true p236
         replace q236 := eq_true q236
         go_wp2_with (first | ((with_reducible refine gate_dst (N := 4) rfl ?_); (try (refine gate_guard (by rfl) ?_; dsimp only)); refine box_event ?hg (N := 4) ?hd (cs := #[.int .i64 0, .int .i64 0]) (t := 69) ?hr ?_; (case hd => rfl); (case hg => rfl); (case hr => first | (go_simp; done) | (go_simp; rfl)); intro gb237 hg w49 hbox hb; have BK237 := Aside0.mk (hbox); have GW237 := bsz (w := w) hg; have GE237 := GW237; have NB235_237 := neL (g := gb235) hg; have NB237_235 := neR (g := gb235) hg; replace BK235 := Aside0.mk (blk_below (g := gb235) blkz hb); replace HB := Aside0.mk (below_step bel hb); clear hb hbox hg; have hnb50 := NB237_235.out; have hnc50 := NB235_237.out; have hcz51_0 := blkc BK237.out 0 (.int .i64 0) rfl; have hcz51_1 := blkc BK237.out 1 (.int .i64 0) rfl; have hfz51_0 := blk_frozen BK237.out 0; have hfz51_1 := blk_frozen BK237.out 1; have hcz52_0 := blkc BK235.out 0 (.int .i64 a0_0) rfl; have hcz52_1 := blkc BK235.out 1 (.slice (some ad236) l0_1.length c0_1) rfl; have hcz52_2 := blkc BK235.out 2 (.slice A0_2 l0_2.length c0_2) rfl) | ((with_reducible refine gate_callee (f := 58) rfl ?_); refine goesL_ (some 42) rfl rfl Tryd.func58 (by kernel_rfl) rfl #[.agg #[.int .i64 a0_0, .slice (some ad236) l0_1.length c0_1, .slice A0_2 l0_2.length c0_2], .int .i64 ((rd_T69 l0_1 x3_2).f0)] rfl mapz ?_; (with_reducible refine (dropperref05_section.calls a0_0 _ _ l0_1 _ _ l0_2 ((rd_T69 l0_1 x3_2).f0) false _ ?side1 ?side2 ?side3 ?side4 A14.out).mono ?_); (case side1 => exact cbz HR0_1); (case side2 => exact HC0_1.out); (case side3 => exact cbz HR0_2); (case side4 => exact HC0_2.out); rintro e w53 ⟨rfl, hb⟩; refine ⟨_, rfl, ?_⟩; replace BK235 := Aside0.mk (blk_below (g := gb235) (o := .cells #[.int .i64 a0_0, .slice (some ad236) l0_1.length c0_1, .slice A0_2 l0_2.length c0_2] 25 (0, 0)) (by (with_reducible repeat (first | refine blk_drewN ?_ _ | refine blk_drew ?_ | refine blk_alloc ?_ _)); refine blk_far ?_ NB235_237.out _; (with_reducible repeat (first | refine blk_drewN ?_ _ | refine blk_drew ?_ | refine blk_alloc ?_ _)); refine blk_far ?_ NB235_237.out _; (with_reducible repeat (first | refine blk_drewN ?_ _ | refine blk_drew ?_ | refine blk_alloc ?_ _)); exact BK235.out) hb); replace BK237 := Aside0.mk (blk_below (g := gb237) (o := .cells #[.int .i64 ((rd_T69 l0_1 x3_2).f0), .int .i64 ((rd_T69 l0_1 x3_2).f1)] 69 (0, 0)) (by (with_reducible repeat (first | refine blk_drewN ?_ _ | refine blk_drew ?_ | refine blk_alloc ?_ _)); refine blk_put (cs := #[.int .i64 ((rd_T69 l0_1 x3_2).f0), .int .i64 0]) ?_ 1 _ rfl; (with_reducible repeat (first | refine blk_drewN ?_ _ | refine blk_drew ?_ | refine blk_alloc ?_ _)); refine blk_put (cs := #[.int .i64 0, .int .i64 0]) ?_ 0 _ rfl; (with_reducible repeat (first | refine blk_drewN ?_ _ | refine blk_drew ?_ | refine blk_alloc ?_ _)); exact BK237.out) hb); replace HB := Aside0.mk (below_step bel hb); (try clear hb); (try clear hb2); (try clear hk); (try clear hi)))
         go_ret
         exact ⟨ezz, bel⟩
       ·
        rw [if_neg c13] at H
        exact absurd H (by simp)
      ·
       rw [if_neg c12] at H
       have c12b0 : decide (x3_2 < (l0_1.length : Int)) = false := decide_eq_false c12
       clear c12
       have H' := Aside0.mk H
       clear H
       have hcz54_0 := blkc BK235.out 0 (.int .i64 a0_0) rfl
       have hcz54_1 := blkc BK235.out 1 (.slice A0_1 l0_1.length c0_1) rfl
       have hcz54_2 := blkc BK235.out 2 (.slice A0_2 l0_2.length c0_2) rfl
       have hfz54_0 := blk_frozen BK235.out 0
       have hfz54_1 := blk_frozen BK235.out 1
       have hfz54_2 := blk_frozen BK235.out 2
       go_wp2
       go_loopg [5] k2 (fun kq v5 w' => ∃ (x5_3 : Int), v5 = .int .i64 x5_3 ∧ Aside0 (dropperref05_Valid.l1 kq x5_3 a0_0 l0_1 l0_2 = some r) ∧ Aside0 (kq ≤ k2) ∧ Aside0 (w'.heap[gb235]? = some (.cells #[.int .i64 a0_0, (.slice A0_1 l0_1.length c0_1), (.slice A0_2 l0_2.length c0_2)] 25 (0, 0))) ∧ Aside0 (Below w.heap.size w w'))
       case atStart => exact ⟨(0), rsz, H', ⟨Nat.le_refl _⟩, ⟨blkz⟩, ⟨bel⟩⟩
       case round =>
        clear H'
        try clear c1
        try clear c2
        try clear p2
        try clear q2
        try clear hx2
        try clear c3
        try clear c4
        try clear c4b0
        try clear c5
        try clear c6
        try clear c6b0
        try clear p6
        try clear c8
        try clear c8b0
        try clear c8b1
        try clear c11
        try clear c12
        try clear c12b0
        try clear c13
        try clear c13b0
        try clear c15
        try clear c17
        try clear c18
        try clear c18b0
        try clear c18b1
        try clear c20
        try clear c21
        try clear p23
        try clear q23
        try clear hx23
        try clear c31
        try clear c41
        try clear c50
        try clear hcz10_0
        try clear hcz10_1
        try clear hcz10_2
        try clear hcz19_0
        try clear hcz19_1
        try clear hcz19_2
        try clear hcz22_0
        try clear hcz22_1
        try clear hcz23_0
        try clear hcz23_1
        try clear hcz23_2
        try clear hcz25_0
        try clear hcz25_1
        try clear hcz25_2
        try clear hcz26_0
        try clear hcz26_1
        try clear hcz28_0
        try clear hcz28_1
        try clear hcz29_0
        try clear hcz29_1
        try clear hcz29_2
        try clear hcz32_0
        try clear hcz32_1
        try clear hcz33_0
        try clear hcz33_1
        try clear hcz33_2
        try clear hcz35_0
        try clear hcz35_1
        try clear hcz35_2
        try clear hcz36_0
        try clear hcz36_1
        try clear hcz38_0
        try clear hcz38_1
        try clear hcz39_0
        try clear hcz39_1
        try clear hcz39_2
        try clear hcz42_0
        try clear hcz42_1
        try clear hcz43_0
        try clear hcz43_1
        try clear hcz43_2
        try clear hcz45_0
        try clear hcz45_1
        try clear hcz45_2
        try clear hcz46_0
        try clear hcz46_1
        try clear hcz48_0
        try clear hcz48_1
        try clear hcz48_2
        try clear hcz51_0
        try clear hcz51_1
        try clear hcz52_0
        try clear hcz52_1
        try clear hcz52_2
        try clear hcz54_0
        try clear hcz54_1
        try clear hcz54_2
        try clear hcz5_0
        try clear hcz5_1
        try clear hcz5_2
        try clear hcz7_0
        try clear hcz7_1
        try clear hcz7_2
        try clear hcz9_0
        try clear hcz9_1
        try clear hcz9_2
        try clear hfz10_0
        try clear hfz10_1
        try clear hfz10_2
        try clear hfz19_0
        try clear hfz19_1
        try clear hfz19_2
        try clear hfz22_0
        try clear hfz22_1
        try clear hfz23_0
        try clear hfz23_1
        try clear hfz23_2
        try clear hfz25_0
        try clear hfz25_1
        try clear hfz25_2
        try clear hfz26_0
        try clear hfz26_1
        try clear hfz28_0
        try clear hfz28_1
        try clear hfz29_0
        try clear hfz29_1
        try clear hfz29_2
        try clear hfz32_0
        try clear hfz32_1
        try clear hfz33_0
        try clear hfz33_1
        try clear hfz33_2
        try clear hfz35_0
        try clear hfz35_1
        try clear hfz35_2
        try clear hfz36_0
        try clear hfz36_1
        try clear hfz38_0
        try clear hfz38_1
        try clear hfz39_0
        try clear hfz39_1
        try clear hfz39_2
        try clear hfz42_0
        try clear hfz42_1
        try clear hfz43_0
        try clear hfz43_1
        try clear hfz43_2
        try clear hfz45_0
        try clear hfz45_1
        try clear hfz45_2
        try clear hfz46_0
        try clear hfz46_1
        try clear hfz48_0
        try clear hfz48_1
        try clear hfz48_2
        try clear hfz51_0
        try clear hfz51_1
        try clear hfz52_0
        try clear hfz52_1
        try clear hfz52_2
        try clear hfz54_0
        try clear hfz54_1
        try clear hfz54_2
        try clear hfz5_0
        try clear hfz5_1
        try clear hfz5_2
        try clear hfz7_0
        try clear hfz7_1
        try clear hfz7_2
        try clear hfz9_0
        try clear hfz9_1
        try clear hfz9_2
        try clear hx236_0
        try clear hx236_1
        try clear p2
        try clear p236
        try clear q236
        obtain ⟨x5_3, rfl, HA, HK3, BK235, HB⟩ := hrel
        cases gk with
        | zero => exact absurd HA.out (by simp [dropperref05_Valid.l1])
        | succ k3 =>
         have H := HA.out
         clear HA
         simp only [dropperref05_Valid.l1] at H
         by_cases c55 : x5_3 < (l0_2.length : Int)
         ·
          rw [if_pos c55] at H
          have c55b0 : decide (x5_3 < (l0_2.length : Int)) = true := decide_eq_true c55
          clear c55
          by_cases c56 : 0 ≤ x5_3
          ·
           rw [if_pos c56] at H
           have c56b0 : decide (0 ≤ x5_3) = true := decide_eq_true c56
           clear c56
           replace H := Option.bind_eq_some_iff.mp H
           obtain ⟨t242, A570, H⟩ := H
           replace H : (if t242 = true then (if ((rd_T71 l0_2 x5_3).f1) < 1 then (some false) else (if ((rd_T71 l0_2 x5_3).f1) > 3 then (some false) else (dropperref05_Valid.l1 k3 (wrap64 (x5_3 + 1)) a0_0 l0_1 l0_2))) else (some false)) = some r := H
           have A57 := Aside0.mk A570
           clear A570
           by_cases c58 : t242 = true
           ·
            subst c58
            have H1 : (if ((rd_T71 l0_2 x5_3).f1) < 1 then (some false) else (if ((rd_T71 l0_2 x5_3).f1) > 3 then (some false) else (dropperref05_Valid.l1 k3 (wrap64 (x5_3 + 1)) a0_0 l0_1 l0_2))) = some r := by rw [if_pos rfl] at H; exact H
            clear H
            have H := H1
            clear H1
            by_cases c59 : ((rd_T71 l0_2 x5_3).f1) < 1
            ·
             rw [if_pos c59] at H
             have c59b0 : decide (((rd_T71 l0_2 x5_3).f1) < 1) = true := decide_eq_true c59
             clear c59
             obtain rfl := Option.some.inj H
             have hcz60_0 := blkc BK235.out 0 (.int .i64 a0_0) rfl
             have hcz60_1 := blkc BK235.out 1 (.slice A0_1 l0_1.length c0_1) rfl
             have hcz60_2 := blkc BK235.out 2 (.slice A0_2 l0_2.length c0_2) rfl
             have hfz60_0 := blk_frozen BK235.out 0
             have hfz60_1 := blk_frozen BK235.out 1
             have hfz60_2 := blk_frozen BK235.out 2
             have p240 : 0 ≤ (x5_3 : Int) := of_decide_eq_true asz
             have q240 : x5_3 < (l0_2.length : Int) := of_decide_eq_true asz
             obtain ⟨ad240, e240, hx240_0, hx240_1⟩ := at_T71 HR0_2.out x5_3 p240 q240
             cases e240
             replace hx240_0 := (HB.out.cell (World.block_lt_of_cell? w _ hx240_0)).trans hx240_0
             replace hx240_1 := (HB.out.cell (World.block_lt_of_cell? w _ hx240_1)).trans hx240_1
             replace p240 := eq_true p240
             replace q240 := eq_true q240
             go_wp2_with (first | ((with_reducible refine gate_dst (N := 6) rfl ?_); (try (refine gate_guard (by rfl) ?_; dsimp only)); refine box_event ?hg (N := 6) ?hd (cs := #[.int .i64 0, .int .i64 0]) (t := 71) ?hr ?_; (case hd => rfl); (case hg => rfl); (case hr => first | (go_simp; done) | (go_simp; rfl)); intro gb241 hg w61 hbox hb; have BK241 := Aside0.mk (hbox); have GW241 := bsz (w := w) hg; have GE241 := GW241; have NB235_241 := neL (g := gb235) hg; have NB241_235 := neR (g := gb235) hg; replace BK235 := Aside0.mk (blk_below (g := gb235) blkz hb); replace HB := Aside0.mk (below_step bel hb); clear hb hbox hg; have hnb62 := NB241_235.out; have hnc62 := NB235_241.out; have hcz63_0 := blkc BK241.out 0 (.int .i64 0) rfl; have hcz63_1 := blkc BK241.out 1 (.int .i64 0) rfl; have hfz63_0 := blk_frozen BK241.out 0; have hfz63_1 := blk_frozen BK241.out 1; have hcz64_0 := blkc BK235.out 0 (.int .i64 a0_0) rfl; have hcz64_1 := blkc BK235.out 1 (.slice A0_1 l0_1.length c0_1) rfl; have hcz64_2 := blkc BK235.out 2 (.slice (some ad240) l0_2.length c0_2) rfl) | ((with_reducible refine gate_callee (f := 58) rfl ?_); refine goesL_ (some 73) rfl rfl Tryd.func58 (by kernel_rfl) rfl #[.agg #[.int .i64 a0_0, .slice A0_1 l0_1.length c0_1, .slice (some ad240) l0_2.length c0_2], .int .i64 ((rd_T71 l0_2 x5_3).f0)] rfl mapz ?_; (with_reducible refine (dropperref05_section.calls a0_0 _ _ l0_1 _ _ l0_2 ((rd_T71 l0_2 x5_3).f0) true _ ?side1 ?side2 ?side3 ?side4 A57.out).mono ?_); (case side1 => exact cbz HR0_1); (case side2 => exact HC0_1.out); (case side3 => exact cbz HR0_2); (case side4 => exact HC0_2.out); rintro e w65 ⟨rfl, hb⟩; refine ⟨_, rfl, ?_⟩; replace BK235 := Aside0.mk (blk_below (g := gb235) (o := .cells #[.int .i64 a0_0, .slice A0_1 l0_1.length c0_1, .slice (some ad240) l0_2.length c0_2] 25 (0, 0)) (by (with_reducible repeat (first | refine blk_drewN ?_ _ | refine blk_drew ?_ | refine blk_alloc ?_ _)); refine blk_far ?_ NB235_241.out _; (with_reducible repeat (first | refine blk_drewN ?_ _ | refine blk_drew ?_ | refine blk_alloc ?_ _)); refine blk_far ?_ NB235_241.out _; (with_reducible repeat (first | refine blk_drewN ?_ _ | refine blk_drew ?_ | refine blk_alloc ?_ _)); exact BK235.out) hb); replace BK241 := Aside0.mk (blk_below (g := gb241) (o := .cells #[.int .i64 ((rd_T71 l0_2 x5_3).f0), .int .i64 ((rd_T71 l0_2 x5_3).f1)] 71 (0, 0)) (by (with_reducible repeat (first | refine blk_drewN ?_ _ | refine blk_drew ?_ | refine blk_alloc ?_ _)); refine blk_put (cs := #[.int .i64 ((rd_T71 l0_2 x5_3).f0), .int .i64 0]) ?_ 1 _ rfl; (with_reducible repeat (first | refine blk_drewN ?_ _ | refine blk_drew ?_ | refine blk_alloc ?_ _)); refine blk_put (cs := #[.int .i64 0, .int .i64 0]) ?_ 0 _ rfl; (with_reducible repeat (first | refine blk_drewN ?_ _ | refine blk_drew ?_ | refine blk_alloc ?_ _)); exact BK241.out) hb); replace HB := Aside0.mk (below_step bel hb); (try clear hb); (try clear hb2); (try clear hk); (try clear hi); have hcz66_0 := blkc BK241.out 0 (.int .i64 ((rd_T71 l0_2 x5_3).f0)) rfl; have hcz66_1 := blkc BK241.out 1 (.int .i64 ((rd_T71 l0_2 x5_3).f1)) rfl; have hfz66_0 := blk_frozen BK241.out 0; have hfz66_1 := blk_frozen BK241.out 1))
             go_ret
             exact ⟨ezz, bel⟩
            ·
             rw [if_neg c59] at H
             have c59b0 : decide (((rd_T71 l0_2 x5_3).f1) < 1) = false := decide_eq_false c59
             clear c59
             by_cases c67 : ((rd_T71 l0_2 x5_3).f1) > 3
             ·
              rw [if_pos c67] at H
              have c67b0 : decide (3 < ((rd_T71 l0_2 x5_3).f1)) = true := decide_eq_true c67
              clear c67
              obtain rfl := Option.some.inj H
              have hcz68_0 := blkc BK235.out 0 (.int .i64 a0_0) rfl
              have hcz68_1 := blkc BK235.out 1 (.slice A0_1 l0_1.length c0_1) rfl
              have hcz68_2 := blkc BK235.out 2 (.slice A0_2 l0_2.length c0_2) rfl
              have hfz68_0 := blk_frozen BK235.out 0
              have hfz68_1 := blk_frozen BK235.out 1
              have hfz68_2 := blk_frozen BK235.out 2
              have p240 : 0 ≤ (x5_3 : Int) := of_decide_eq_true asz
              have q240 : x5_3 < (l0_2.length : Int) := of_decide_eq_true asz
              obtain ⟨ad240, e240, hx240_0, hx240_1⟩ := at_T71 HR0_2.out x5_3 p240 q240
              cases e240
              replace hx240_0 := (HB.out.cell (World.block_lt_of_cell? w _ hx240_0)).trans hx240_0
              replace hx240_1 := (HB.out.cell (World.block_lt_of_cell? w _ hx240_1)).trans hx240_1
              replace p240 := eq_true p240
              replace q240 := eq_true q240
              go_wp2_with (first | ((with_reducible refine gate_dst (N := 6) rfl ?_); (try (refine gate_guard (by rfl) ?_; dsimp only)); refine box_event ?hg (N := 6) ?hd (cs := #[.int .i64 0, .int .i64 0]) (t := 71) ?hr ?_; (case hd => rfl); (case hg => rfl); (case hr => first | (go_simp; done) | (go_simp; rfl)); intro gb241 hg w69 hbox hb; have BK241 := Aside0.mk (hbox); have GW241 := bsz (w := w) hg; have GE241 := GW241; have NB235_241 := neL (g := gb235) hg; have NB241_235 := neR (g := gb235) hg; replace BK235 := Aside0.mk (blk_below (g := gb235) blkz hb); replace HB := Aside0.mk (below_step bel hb); clear hb hbox hg; have hnb70 := NB241_235.out; have hnc70 := NB235_241.out; have hcz71_0 := blkc BK241.out 0 (.int .i64 0) rfl; have hcz71_1 := blkc BK241.out 1 (.int .i64 0) rfl; have hfz71_0 := blk_frozen BK241.out 0; have hfz71_1 := blk_frozen BK241.out 1; have hcz72_0 := blkc BK235.out 0 (.int .i64 a0_0) rfl; have hcz72_1 := blkc BK235.out 1 (.slice A0_1 l0_1.length c0_1) rfl; have hcz72_2 := blkc BK235.out 2 (.slice (some ad240) l0_2.length c0_2) rfl) | ((with_reducible refine gate_callee (f := 58) rfl ?_); refine goesL_ (some 73) rfl rfl Tryd.func58 (by kernel_rfl) rfl #[.agg #[.int .i64 a0_0, .slice A0_1 l0_1.length c0_1, .slice (some ad240) l0_2.length c0_2], .int .i64 ((rd_T71 l0_2 x5_3).f0)] rfl mapz ?_; (with_reducible refine (dropperref05_section.calls a0_0 _ _ l0_1 _ _ l0_2 ((rd_T71 l0_2 x5_3).f0) true _ ?side1 ?side2 ?side3 ?side4 A57.out).mono ?_); (case side1 => exact cbz HR0_1); (case side2 => exact HC0_1.out); (case side3 => exact cbz HR0_2); (case side4 => exact HC0_2.out); rintro e w73 ⟨rfl, hb⟩; refine ⟨_, rfl, ?_⟩; replace BK235 := Aside0.mk (blk_below (g := gb235) (o := .cells #[.int .i64 a0_0, .slice A0_1 l0_1.length c0_1, .slice (some ad240) l0_2.length c0_2] 25 (0, 0)) (by (with_reducible repeat (first | refine blk_drewN ?_ _ | refine blk_drew ?_ | refine blk_alloc ?_ _)); refine blk_far ?_ NB235_241.out _; (with_reducible repeat (first | refine blk_drewN ?_ _ | refine blk_drew ?_ | refine blk_alloc ?_ _)); refine blk_far ?_ NB235_241.out _; (with_reducible repeat (first | refine blk_drewN ?_ _ | refine blk_drew ?_ | refine blk_alloc ?_ _)); exact BK235.out) hb); replace BK241 := Aside0.mk (blk_below (g := gb241) (o := .cells #[.int .i64 ((rd_T71 l0_2 x5_3).f0), .int .i64 ((rd_T71 l0_2 x5_3).f1)] 71 (0, 0)) (by (with_reducible repeat (first | refine blk_drewN ?_ _ | refine blk_drew ?_ | refine blk_alloc ?_ _)); refine blk_put (cs := #[.int .i64 ((rd_T71 l0_2 x5_3).f0), .int .i64 0]) ?_ 1 _ rfl; (with_reducible repeat (first | refine blk_drewN ?_ _ | refine blk_drew ?_ | refine blk_alloc ?_ _)); refine blk_put (cs := #[.int .i64 0, .int .i64 0]) ?_ 0 _ rfl; (with_reducible repeat (first | refine blk_drewN ?_ _ | refine blk_drew ?_ | refine blk_alloc ?_ _)); exact BK241.out) hb); replace HB := Aside0.mk (below_step bel hb); (try clear hb); (try clear hb2); (try clear hk); (try clear hi); have hcz74_0 := blkc BK241.out 0 (.int .i64 ((rd_T71 l0_2 x5_3).f0)) rfl; have hcz74_1 := blkc BK241.out 1 (.int .i64 ((rd_T71 l0_2 x5_3).f1)) rfl; have hfz74_0 := blk_frozen BK241.out 0; have hfz74_1 := blk_frozen BK241.out 1))
              go_ret
              exact ⟨ezz, bel⟩
             ·
              rw [if_neg c67] at H
              have c67b0 : decide (3 < ((rd_T71 l0_2 x5_3).f1)) = false := decide_eq_false c67
              clear c67
              have H' := Aside0.mk H
              clear H
              have hcz75_0 := blkc BK235.out 0 (.int .i64 a0_0) rfl
              have hcz75_1 := blkc BK235.out 1 (.slice A0_1 l0_1.length c0_1) rfl
              have hcz75_2 := blkc BK235.out 2 (.slice A0_2 l0_2.length c0_2) rfl
              have hfz75_0 := blk_frozen BK235.out 0
              have hfz75_1 := blk_frozen BK235.out 1
              have hfz75_2 := blk_frozen BK235.out 2
              have p240 : 0 ≤ (x5_3 : Int) := of_decide_eq_true asz
              have q240 : x5_3 < (l0_2.length : Int) := of_decide_eq_true asz
              obtain ⟨ad240, e240, hx240_0, hx240_1⟩ := at_T71 HR0_2.out x5_3 p240 q240
              cases e240
              replace hx240_0 := (HB.out.cell (World.block_lt_of_cell? w _ hx240_0)).trans hx240_0
              replace hx240_1 := (HB.out.cell (World.block_lt_of_cell? w _ hx240_1)).trans hx240_1
              replace p240 := eq_true p240
              replace q240 := eq_true q240
              go_wp2_with (first | ((with_reducible refine gate_dst (N := 6) rfl ?_); (try (refine gate_guard (by rfl) ?_; dsimp only)); refine box_event ?hg (N := 6) ?hd (cs := #[.int .i64 0, .int .i64 0]) (t := 71) ?hr ?_; (case hd => rfl); (case hg => rfl); (case hr => first | (go_simp; done) | (go_simp; rfl)); intro gb241 hg w76 hbox hb; have BK241 := Aside0.mk (hbox); have GW241 := bsz (w := w) hg; have GE241 := GW241; have NB235_241 := neL (g := gb235) hg; have NB241_235 := neR (g := gb235) hg; replace BK235 := Aside0.mk (blk_below (g := gb235) blkz hb); replace HB := Aside0.mk (below_step bel hb); clear hb hbox hg; have hnb77 := NB241_235.out; have hnc77 := NB235_241.out; have hcz78_0 := blkc BK241.out 0 (.int .i64 0) rfl; have hcz78_1 := blkc BK241.out 1 (.int .i64 0) rfl; have hfz78_0 := blk_frozen BK241.out 0; have hfz78_1 := blk_frozen BK241.out 1; have hcz79_0 := blkc BK235.out 0 (.int .i64 a0_0) rfl; have hcz79_1 := blkc BK235.out 1 (.slice A0_1 l0_1.length c0_1) rfl; have hcz79_2 := blkc BK235.out 2 (.slice (some ad240) l0_2.length c0_2) rfl) | ((with_reducible refine gate_callee (f := 58) rfl ?_); refine goesL_ (some 73) rfl rfl Tryd.func58 (by kernel_rfl) rfl #[.agg #[.int .i64 a0_0, .slice A0_1 l0_1.length c0_1, .slice (some ad240) l0_2.length c0_2], .int .i64 ((rd_T71 l0_2 x5_3).f0)] rfl mapz ?_; (with_reducible refine (dropperref05_section.calls a0_0 _ _ l0_1 _ _ l0_2 ((rd_T71 l0_2 x5_3).f0) true _ ?side1 ?side2 ?side3 ?side4 A57.out).mono ?_); (case side1 => exact cbz HR0_1); (case side2 => exact HC0_1.out); (case side3 => exact cbz HR0_2); (case side4 => exact HC0_2.out); rintro e w80 ⟨rfl, hb⟩; refine ⟨_, rfl, ?_⟩; replace BK235 := Aside0.mk (blk_below (g := gb235) (o := .cells #[.int .i64 a0_0, .slice A0_1 l0_1.length c0_1, .slice (some ad240) l0_2.length c0_2] 25 (0, 0)) (by (with_reducible repeat (first | refine blk_drewN ?_ _ | refine blk_drew ?_ | refine blk_alloc ?_ _)); refine blk_far ?_ NB235_241.out _; (with_reducible repeat (first | refine blk_drewN ?_ _ | refine blk_drew ?_ | refine blk_alloc ?_ _)); refine blk_far ?_ NB235_241.out _; (with_reducible repeat (first | refine blk_drewN ?_ _ | refine blk_drew ?_ | refine blk_alloc ?_ _)); exact BK235.out) hb); replace BK241 := Aside0.mk (blk_below (g := gb241) (o := .cells #[.int .i64 ((rd_T71 l0_2 x5_3).f0), .int .i64 ((rd_T71 l0_2 x5_3).f1)] 71 (0, 0)) (by (with_reducible repeat (first | refine blk_drewN ?_ _ | refine blk_drew ?_ | refine blk_alloc ?_ _)); refine blk_put (cs := #[.int .i64 ((rd_T71 l0_2 x5_3).f0), .int .i64 0]) ?_ 1 _ rfl; (with_reducible repeat (first | refine blk_drewN ?_ _ | refine blk_drew ?_ | refine blk_alloc ?_ _)); refine blk_put (cs := #[.int .i64 0, .int .i64 0]) ?_ 0 _ rfl; (with_reducible repeat (first | refine blk_drewN ?_ _ | refine blk_drew ?_ | refine blk_alloc ?_ _)); exact BK241.out) hb); replace HB := Aside0.mk (below_step bel hb); (try clear hb); (try clear hb2); (try clear hk); (try clear hi); have hcz81_0 := blkc BK241.out 0 (.int .i64 ((rd_T71 l0_2 x5_3).f0)) rfl; have hcz81_1 := blkc BK241.out 1 (.int .i64 ((rd_T71 l0_2 x5_3).f1)) rfl; have hfz81_0 := blk_frozen BK241.out 0; have hfz81_1 := blk_frozen BK241.out 1))
              go_roundg k3
              case measure => have := HJ1.out; have := HK2.out; have := HK3.out; omega
              case rel => exact ⟨(wrap64 (x5_3 + 1)), rsz, H', ⟨by have := HJ1.out; have := HK2.out; have := HK3.out; omega⟩, ⟨blkz⟩, ⟨bel⟩⟩
           ·
            replace c58 := Bool.eq_false_iff.mpr c58
            subst c58
            have H1 : (some false) = some r := by rw [if_neg (show ¬ (false = true) by decide)] at H; exact H
            clear H
            have H := H1
            clear H1
            obtain rfl := Option.some.inj H
            have hcz82_0 := blkc BK235.out 0 (.int .i64 a0_0) rfl
            have hcz82_1 := blkc BK235.out 1 (.slice A0_1 l0_1.length c0_1) rfl
            have hcz82_2 := blkc BK235.out 2 (.slice A0_2 l0_2.length c0_2) rfl
            have hfz82_0 := blk_frozen BK235.out 0
            have hfz82_1 := blk_frozen BK235.out 1
            have hfz82_2 := blk_frozen BK235.out 2
            have p240 : 0 ≤ (x5_3 : Int) := of_decide_eq_true asz
            have q240 : x5_3 < (l0_2.length : Int) := of_decide_eq_true asz
            obtain ⟨ad240, e240, hx240_0, hx240_1⟩ := at_T71 HR0_2.out x5_3 p240 q240
            cases e240
            replace hx240_0 := (HB.out.cell (World.block_lt_of_cell? w _ hx240_0)).trans hx240_0
            replace hx240_1 := (HB.out.cell (World.block_lt_of_cell? w _ hx240_1)).trans hx240_1
            replace p240 := eq_true p240
            replace q240 := eq_true q240
            go_wp2_with (first | ((with_reducible refine gate_dst (N := 6) rfl ?_); (try (refine gate_guard (by rfl) ?_; dsimp only)); refine box_event ?hg (N := 6) ?hd (cs := #[.int .i64 0, .int .i64 0]) (t := 71) ?hr ?_; (case hd => rfl); (case hg => rfl); (case hr => first | (go_simp; done) | (go_simp; rfl)); intro gb241 hg w83 hbox hb; have BK241 := Aside0.mk (hbox); have GW241 := bsz (w := w) hg; have GE241 := GW241; have NB235_241 := neL (g := gb235) hg; have NB241_235 := neR (g := gb235) hg; replace BK235 := Aside0.mk (blk_below (g := gb235) blkz hb); replace HB := Aside0.mk (below_step bel hb); clear hb hbox hg; have hnb84 := NB241_235.out; have hnc84 := NB235_241.out; have hcz85_0 := blkc BK241.out 0 (.int .i64 0) rfl; have hcz85_1 := blkc BK241.out 1 (.int .i64 0) rfl; have hfz85_0 := blk_frozen BK241.out 0; have hfz85_1 := blk_frozen BK241.out 1; have hcz86_0 := blkc BK235.out 0 (.int .i64 a0_0) rfl; have hcz86_1 := blkc BK235.out 1 (.slice A0_1 l0_1.length c0_1) rfl; have hcz86_2 := blkc BK235.out 2 (.slice (some ad240) l0_2.length c0_2) rfl) | ((with_reducible refine gate_callee (f := 58) rfl ?_); refine goesL_ (some 73) rfl rfl Tryd.func58 (by kernel_rfl) rfl #[.agg #[.int .i64 a0_0, .slice A0_1 l0_1.length c0_1, .slice (some ad240) l0_2.length c0_2], .int .i64 ((rd_T71 l0_2 x5_3).f0)] rfl mapz ?_; (with_reducible refine (dropperref05_section.calls a0_0 _ _ l0_1 _ _ l0_2 ((rd_T71 l0_2 x5_3).f0) false _ ?side1 ?side2 ?side3 ?side4 A57.out).mono ?_); (case side1 => exact cbz HR0_1); (case side2 => exact HC0_1.out); (case side3 => exact cbz HR0_2); (case side4 => exact HC0_2.out); rintro e w87 ⟨rfl, hb⟩; refine ⟨_, rfl, ?_⟩; replace BK235 := Aside0.mk (blk_below (g := gb235) (o := .cells #[.int .i64 a0_0, .slice A0_1 l0_1.length c0_1, .slice (some ad240) l0_2.length c0_2] 25 (0, 0)) (by (with_reducible repeat (first | refine blk_drewN ?_ _ | refine blk_drew ?_ | refine blk_alloc ?_ _)); refine blk_far ?_ NB235_241.out _; (with_reducible repeat (first | refine blk_drewN ?_ _ | refine blk_drew ?_ | refine blk_alloc ?_ _)); refine blk_far ?_ NB235_241.out _; (with_reducible repeat (first | refine blk_drewN ?_ _ | refine blk_drew ?_ | refine blk_alloc ?_ _)); exact BK235.out) hb); replace BK241 := Aside0.mk (blk_below (g := gb241) (o := .cells #[.int .i64 ((rd_T71 l0_2 x5_3).f0), .int .i64 ((rd_T71 l0_2 x5_3).f1)] 71 (0, 0)) (by (with_reducible repeat (first | refine blk_drewN ?_ _ | refine blk_drew ?_ | refine blk_alloc ?_ _)); refine blk_put (cs := #[.int .i64 ((rd_T71 l0_2 x5_3).f0), .int .i64 0]) ?_ 1 _ rfl; (with_reducible repeat (first | refine blk_drewN ?_ _ | refine blk_drew ?_ | refine blk_alloc ?_ _)); refine blk_put (cs := #[.int .i64 0, .int .i64 0]) ?_ 0 _ rfl; (with_reducible repeat (first | refine blk_drewN ?_ _ | refine blk_drew ?_ | refine blk_alloc ?_ _)); exact BK241.out) hb); replace HB := Aside0.mk (below_step bel hb); (try clear hb); (try clear hb2); (try clear hk); (try clear hi)))
            go_ret
            exact ⟨ezz, bel⟩
          ·
           rw [if_neg c56] at H
           exact absurd H (by simp)
         ·
          rw [if_neg c55] at H
          have c55b0 : decide (x5_3 < (l0_2.length : Int)) = false := decide_eq_false c55
          clear c55
          obtain rfl := Option.some.inj H
          have hcz88_0 := blkc BK235.out 0 (.int .i64 a0_0) rfl
          have hcz88_1 := blkc BK235.out 1 (.slice A0_1 l0_1.length c0_1) rfl
          have hcz88_2 := blkc BK235.out 2 (.slice A0_2 l0_2.length c0_2) rfl
          have hfz88_0 := blk_frozen BK235.out 0
          have hfz88_1 := blk_frozen BK235.out 1
          have hfz88_2 := blk_frozen BK235.out 2
          go_wp2
          go_ret
          exact ⟨ezz, bel⟩

/-! ### dropperref05_IsState: function 76 -/
def dropperref05_IsState.f (a0_0 : Int) (l0_1 : List (S69)) (l0_2 : List (S71)) (a1 : Int) : Option (Bool) := if a1 ≥ 0 then (some (decide (a1 < (shl .i64 1 (l0_1.length : Int))))) else (some false)
set_option maxHeartbeats 8000000 in
set_option maxRecDepth 100000 in
theorem dropperref05_IsState.calls (a0_0 : Int) (A0_1 : Option Addr) (c0_1 : Nat) (l0_1 : List (S69)) (A0_2 : Option Addr) (c0_2 : Nat) (l0_2 : List (S71)) (a1 : Int) (r : Bool) (w : World) (hr0_1 : Kd.C k69 w A0_1 l0_1.length l0_1) (hc0_1 : l0_1.length ≤ c0_1) (hr0_2 : Kd.C k71 w A0_2 l0_2.length l0_2) (hc0_2 : l0_2.length ≤ c0_2) (h : dropperref05_IsState.f a0_0 l0_1 l0_2 a1 = some r) :
  Calls Tryd.prog 76 #[.agg #[.int .i64 a0_0, .slice A0_1 l0_1.length c0_1, .slice A0_2 l0_2.length c0_2], .int .i64 a1] w fun e w' => e = .returned (.bool r) ∧ Below w.heap.size w w' := by
 have hu25 := Tryd.underlying25
 have HR0_1 := Aside0.mk hr0_1
 have HC0_1 := Aside0.mk hc0_1
 clear hr0_1 hc0_1
 have HR0_2 := Aside0.mk hr0_2
 have HC0_2 := Aside0.mk hc0_2
 clear hr0_2 hc0_2
 have HB := Aside0.mk (Below.refl w.heap.size w)
 have H : (if a1 ≥ 0 then (some (decide (a1 < (shl .i64 1 (l0_1.length : Int))))) else (some false)) = some r := h
 clear h
 by_cases c3 : a1 ≥ 0
 ·
  rw [if_pos c3] at H
  have c3b0 : decide (0 ≤ a1) = true := decide_eq_true c3
  clear c3
  obtain ⟨ji4, hji4⟩ : ∃ j_ : Int, (shl .i64 1 (l0_1.length : Int)) = j_ := ⟨_, rfl⟩
  replace H : (some (decide (a1 < (ji4)))) = some r := by first | (rw [hji4] at H; exact H) | (simp only [hji4] at H ⊢; exact H)
  have hji4_ : (IntKind.i64.wrap (1 * 2 ^ min (l0_1.length : Int).toNat 64)) = ji4 := hji4
  have hji4z : (l0_1.length : Int) ≤ 64 → (IntKind.i64.wrap (1 * 2 ^ (l0_1.length : Int).toNat)) = ji4 := shl_small hji4
  have hji4p : (IntKind.i64.wrap (1 * 2 ^ min l0_1.length 64)) = ji4 := hji4_
  have hji4q : (l0_1.length : Int) ≤ 64 → (IntKind.i64.wrap (1 * 2 ^ l0_1.length)) = ji4 := hji4z
  have hji4r : (IntKind.i64.wrap (2 ^ min l0_1.length 64)) = ji4 := by have h_ := hji4p; rw [Int.one_mul] at h_; exact h_
  have hji4s : (l0_1.length : Int) ≤ 64 → (IntKind.i64.wrap (2 ^ l0_1.length)) = ji4 := fun hle_ => by have h_ := hji4q hle_; rw [Int.one_mul] at h_; exact h_
  have hji4u : (IntKind.i64.wrap (2 ^ min (l0_1.length : Int).toNat 64)) = ji4 := by have h_ := hji4_; rw [Int.one_mul] at h_; exact h_
  have hji4v : (l0_1.length : Int) ≤ 64 → (IntKind.i64.wrap (2 ^ (l0_1.length : Int).toNat)) = ji4 := fun hle_ => by have h_ := hji4z hle_; rw [Int.one_mul] at h_; exact h_
  have hji4y : (wrap64 (1 * 2 ^ min (l0_1.length : Int).toNat 64)) = ji4 := (i64_w _).symm.trans hji4_
  have hji4x : (l0_1.length : Int) ≤ 64 → (wrap64 (1 * 2 ^ (l0_1.length : Int).toNat)) = ji4 := fun h_ => (i64_w _).symm.trans (hji4z h_)
  obtain rfl := Option.some.inj H
  go_enter Tryd.func76, Tryd.ntmps76
  go_wp2_with (first | ((with_reducible refine gate_dst (N := 2) rfl ?_); (try (refine gate_guard (by rfl) ?_; dsimp only)); refine box_event ?hg (N := 2) ?hd (cs := #[.int .i64 a0_0, .slice A0_1 l0_1.length c0_1, .slice A0_2 l0_2.length c0_2]) (t := 25) ?hr ?_; (case hd => rfl); (case hg => rfl); (case hr => first | (go_simp; done) | (go_simp; rfl)); intro gb243 hg w5 hbox hb; have BK243 := Aside0.mk (hbox); have GW243 := bsz (w := w) hg; have GE243 := GW243; replace HB := Aside0.mk (below_step bel hb); clear hb hbox hg; have hcz6_0 := blkc BK243.out 0 (.int .i64 a0_0) rfl; have hcz6_1 := blkc BK243.out 1 (.slice A0_1 l0_1.length c0_1) rfl; have hcz6_2 := blkc BK243.out 2 (.slice A0_2 l0_2.length c0_2) rfl))
  go_ret
  exact ⟨by first | rfl | (simp [errW_none, errW_some] <;> rfl) | (simp only [← hji4]; first | rfl | (simp [errW_none, errW_some] <;> rfl)) | (simp [*, errW_none, errW_some] <;> rfl), bel⟩
 ·
  rw [if_neg c3] at H
  have c3b0 : decide (0 ≤ a1) = false := decide_eq_false c3
  clear c3
  obtain rfl := Option.some.inj H
  go_enter Tryd.func76, Tryd.ntmps76
  go_wp2_with (first | ((with_reducible refine gate_dst (N := 2) rfl ?_); (try (refine gate_guard (by rfl) ?_; dsimp only)); refine box_event ?hg (N := 2) ?hd (cs := #[.int .i64 a0_0, .slice A0_1 l0_1.length c0_1, .slice A0_2 l0_2.length c0_2]) (t := 25) ?hr ?_; (case hd => rfl); (case hg => rfl); (case hr => first | (go_simp; done) | (go_simp; rfl)); intro gb243 hg w7 hbox hb; have BK243 := Aside0.mk (hbox); have GW243 := bsz (w := w) hg; have GE243 := GW243; replace HB := Aside0.mk (below_step bel hb); clear hb hbox hg))
  go_ret
  exact ⟨ezz, bel⟩

/-! ### dropperref05_closed: function 61 -/
def dropperref05_closed.f (a0 : Int) (a1 : Int) : Option (Bool) := if 0 ≤ a1 then (some ((Go.bits .and .i64 (shr .i64 a0 a1) 1) == 1)) else (none)
set_option maxHeartbeats 8000000 in
set_option maxRecDepth 100000 in
theorem dropperref05_closed.calls (a0 : Int) (a1 : Int) (r : Bool) (w : World) (h : dropperref05_closed.f a0 a1 = some r) :
  Calls Tryd.prog 61 #[.int .i64 a0, .int .i64 a1] w fun e w' => e = .returned (.bool r) ∧ Drawn0 w w' := by
 have H : (if 0 ≤ a1 then (some ((Go.bits .and .i64 (shr .i64 a0 a1) 1) == 1)) else (none)) = some r := h
 clear h
 by_cases c3 : 0 ≤ a1
 ·
  rw [if_pos c3] at H
  have c3b0 := eq_true c3
  have c3b1 : decide (0 ≤ a1) = true := decide_eq_true c3
  clear c3
  obtain ⟨ji4, hji4⟩ : ∃ j_ : Int, (shr .i64 a0 a1) = j_ := ⟨_, rfl⟩
  replace H : (some ((Go.bits .and .i64 (ji4) 1) == 1)) = some r := by first | (rw [hji4] at H; exact H) | (simp only [hji4] at H ⊢; exact H)
  have hji4_ : (a0 / 2 ^ min a1.toNat 64) = ji4 := hji4
  have hji4z : a1 ≤ 64 → (a0 / 2 ^ a1.toNat) = ji4 := shr_small hji4
  obtain rfl := Option.some.inj H
  go_enter Tryd.func61, Tryd.ntmps61
  go_wp2
  go_ret
  exact ⟨by first | rfl | (simp; done) | (simp only [← hji4] <;> (first | rfl | simp)) | (simp [*]; done), drz⟩
 ·
  rw [if_neg c3] at H
  exact absurd H (by simp)

end Go.Proofs.YtoilhnmdemnknaaDoor.XFeed