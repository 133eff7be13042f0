-- Written by wip/pack.py of this repo: texts of this claim, put together.
import Derived.Test.YtoilhnmdemnknaaDoorKFeedIsOrderc
-- Written by wip/xprint.py of this repo, over the kit's print.py: out of the translation; the oracles in it are by hand. Not trusted: Lean checks it.
namespace Go.Proofs.YtoilhnmdemnknaaDoor.XFeed
open Go.RowKit Go.Proofs.YtoilhnmdemnknaaDoorW.PrintWords Go.Proofs.YtoilhnmdemnknaaDoorW.PrintLast Go.Proofs.YtoilhnmdemnknaaDoorW.PrintMore
attribute [local go_sem] max2_int min2_int max_two min_two max_three min_three max_four min_four   -- for this text's walks alone
set_option linter.unusedVariables false
set_option linter.unusedSimpArgs false

/-! ### feed_ruled: function 69 -/
def feed_ruled.f (k : Nat) (a0_0 : Int) (l0_1 : List (S69)) (l0_2 : List (S71)) (a1 : Int) (l2 : List Int) : Option (Int × Int) := (feed_Valid.f a0_0 l0_1 l0_2).bind fun t478 => (if t478 = true then ((feed_rule_kept.f k a0_0 l0_1 l0_2 l2).bind fun t479 => (if t479 = 0 then ((feed_grid_all.f a0_0 l0_1 l0_2).bind fun t480 => ((feed_within.f 0 a1 (wrap64 (t480 - 1))).bind fun t481 => (if t481 = true then ((feed_rule_keeps.f k a0_0 l0_1 l0_2 l2 a1).bind fun t482 => (if t482 = true then (some (a0_0, 0)) else (some (a0_0, 51)))) else (some (a0_0, 51))))) else (some (a0_0, t479)))) else (some (a0_0, 50)))
theorem feed_ruled.mono : ∀ a0 a1 a2 a3 a4 k, LeO (feed_ruled.f k a0 a1 a2 a3 a4) (feed_ruled.f (k + 1) a0 a1 a2 a3 a4) := by
 intro a0 a1 a2 a3 a4 k
 unfold feed_ruled.f
 repeat' first
   | (with_reducible exact feed_rule_keeps.mono _ _ _ _ _ _)
   | (with_reducible exact feed_rule_kept.mono _ _ _ _ _)
   | (with_reducible exact LeO.refl _)
   | (with_reducible exact LeO.none _)
   | (with_reducible refine LeO.ite ?_ ?_)
   | (with_reducible refine LeO.bind ?_ (fun _ => ?_))
   | exact feed_rule_keeps.mono _ _ _ _ _ _
   | exact feed_rule_kept.mono _ _ _ _ _
   | exact LeO.none _
   | refine LeO.ite ?_ ?_
   | refine LeO.bind ?_ (fun _ => ?_)
set_option maxHeartbeats 8000000 in
set_option maxRecDepth 100000 in
theorem feed_ruled.calls (k : Nat) (a0_0 : Int) (A0_1 : Option Addr) (c0_1 : Nat) (l0_1 : List (S69)) (A0_2 : Option Addr) (c0_2 : Nat) (l0_2 : List (S71)) (a1 : Int) (A2 : Option Addr) (c2 : Nat) (l2 : List Int) (r1 : Int) (r2 : Int) (w : World) (hr0_1 : Kd.C k69 w A0_1 l0_1.length l0_1) (hc0_1 : l0_1.length ≤ c0_1) (hr0_2 : Kd.C k71 w A0_2 l0_2.length l0_2) (hc0_2 : l0_2.length ≤ c0_2) (hr2 : Kd.C (Kd.int .i64) w A2 l2.length l2) (hc2 : l2.length ≤ c2) (hT : Tab.Tabs w) (h : feed_ruled.f k a0_0 l0_1 l0_2 a1 l2 = some (r1, r2)) :
  Calls Tryd.prog 69 #[.agg #[.int .i64 a0_0, .slice A0_1 l0_1.length c0_1, .slice A0_2 l0_2.length c0_2], .int .i64 a1, .slice A2 l2.length c2] w fun e w' => e = .returned (.tuple #[.agg #[.int .i64 r1, .slice A0_1 l0_1.length c0_1, .slice A0_2 l0_2.length c0_2, .slice A2 l2.length c2], .int .i64 r2]) ∧ Below w.heap.size w w' := by
 have HT := Aside0.mk hT
 clear hT
 have hu25 := Tryd.underlying25
 have hu96 := Tryd.underlying96
 have hu73 := Tryd.underlying73
 have HR0_1 := Aside0.mk hr0_1
 have HC0_1 := Aside0.mk hc0_1
 clear hr0_1 hc0_1
 have HR0_2 := Aside0.mk hr0_2
 have HC0_2 := Aside0.mk hc0_2
 clear hr0_2 hc0_2
 have HR2 := Aside0.mk hr2
 have HC2 := Aside0.mk hc2
 clear hr2 hc2
 have HB := Aside0.mk (Below.refl w.heap.size w)
 have H : ((feed_Valid.f a0_0 l0_1 l0_2).bind fun t478 => (if t478 = true then ((feed_rule_kept.f k a0_0 l0_1 l0_2 l2).bind fun t479 => (if t479 = 0 then ((feed_grid_all.f a0_0 l0_1 l0_2).bind fun t480 => ((feed_within.f 0 a1 (wrap64 (t480 - 1))).bind fun t481 => (if t481 = true then ((feed_rule_keeps.f k a0_0 l0_1 l0_2 l2 a1).bind fun t482 => (if t482 = true then (some (a0_0, 0)) else (some (a0_0, 51)))) else (some (a0_0, 51))))) else (some (a0_0, t479)))) else (some (a0_0, 50)))) = some (r1, r2) := h
 clear h
 replace H := Option.bind_eq_some_iff.mp H
 obtain ⟨t478, A40, H⟩ := H
 replace H : (if t478 = true then ((feed_rule_kept.f k a0_0 l0_1 l0_2 l2).bind fun t479 => (if t479 = 0 then ((feed_grid_all.f a0_0 l0_1 l0_2).bind fun t480 => ((feed_within.f 0 a1 (wrap64 (t480 - 1))).bind fun t481 => (if t481 = true then ((feed_rule_keeps.f k a0_0 l0_1 l0_2 l2 a1).bind fun t482 => (if t482 = true then (some (a0_0, 0)) else (some (a0_0, 51)))) else (some (a0_0, 51))))) else (some (a0_0, t479)))) else (some (a0_0, 50))) = some (r1, r2) := H
 have A4 := Aside0.mk A40
 clear A40
 by_cases c5 : t478 = true
 ·
  subst c5
  have H1 : ((feed_rule_kept.f k a0_0 l0_1 l0_2 l2).bind fun t479 => (if t479 = 0 then ((feed_grid_all.f a0_0 l0_1 l0_2).bind fun t480 => ((feed_within.f 0 a1 (wrap64 (t480 - 1))).bind fun t481 => (if t481 = true then ((feed_rule_keeps.f k a0_0 l0_1 l0_2 l2 a1).bind fun t482 => (if t482 = true then (some (a0_0, 0)) else (some (a0_0, 51)))) else (some (a0_0, 51))))) else (some (a0_0, t479)))) = some (r1, r2) := by rw [if_pos rfl] at H; exact H
  clear H
  have H := H1
  clear H1
  replace H := Option.bind_eq_some_iff.mp H
  obtain ⟨t479, A60, H⟩ := H
  replace H : (if t479 = 0 then ((feed_grid_all.f a0_0 l0_1 l0_2).bind fun t480 => ((feed_within.f 0 a1 (wrap64 (t480 - 1))).bind fun t481 => (if t481 = true then ((feed_rule_keeps.f k a0_0 l0_1 l0_2 l2 a1).bind fun t482 => (if t482 = true then (some (a0_0, 0)) else (some (a0_0, 51)))) else (some (a0_0, 51))))) else (some (a0_0, t479))) = some (r1, r2) := H
  have A6 := Aside0.mk A60
  clear A60
  by_cases c7 : t479 = 0
  ·
   rw [if_pos c7] at H
   have c7b0 : (t479 == 0) = true := beq_iff_eq.mpr c7
   have c7b1 : (t479 != 0) = false := bne_eq_false_iff_eq.mpr c7
   clear c7
   replace H := Option.bind_eq_some_iff.mp H
   obtain ⟨t480, A80, H⟩ := H
   replace H : ((feed_within.f 0 a1 (wrap64 (t480 - 1))).bind fun t481 => (if t481 = true then ((feed_rule_keeps.f k a0_0 l0_1 l0_2 l2 a1).bind fun t482 => (if t482 = true then (some (a0_0, 0)) else (some (a0_0, 51)))) else (some (a0_0, 51)))) = some (r1, r2) := H
   have A8 := Aside0.mk A80
   clear A80
   replace H := Option.bind_eq_some_iff.mp H
   obtain ⟨t481, A90, H⟩ := H
   replace H : (if t481 = true then ((feed_rule_keeps.f k a0_0 l0_1 l0_2 l2 a1).bind fun t482 => (if t482 = true then (some (a0_0, 0)) else (some (a0_0, 51)))) else (some (a0_0, 51))) = some (r1, r2) := H
   have A9 := Aside0.mk A90
   clear A90
   by_cases c10 : t481 = true
   ·
    subst c10
    have H1 : ((feed_rule_keeps.f k a0_0 l0_1 l0_2 l2 a1).bind fun t482 => (if t482 = true then (some (a0_0, 0)) else (some (a0_0, 51)))) = some (r1, r2) := by rw [if_pos rfl] at H; exact H
    clear H
    have H := H1
    clear H1
    replace H := Option.bind_eq_some_iff.mp H
    obtain ⟨t482, A110, H⟩ := H
    replace H : (if t482 = true then (some (a0_0, 0)) else (some (a0_0, 51))) = some (r1, r2) := H
    have A11 := Aside0.mk A110
    clear A110
    by_cases c12 : t482 = true
    ·
     subst c12
     have H1 : (some (a0_0, 0)) = some (r1, r2) := by rw [if_pos rfl] at H; exact H
     clear H
     have H := H1
     clear H1
     simp only [Option.some.injEq, Prod.mk.injEq] at H
     obtain ⟨rfl, rfl⟩ := H
     go_enter Tryd.func69, Tryd.ntmps69
     go_wp2_with (first | ((with_reducible refine gate_dst (N := 3) rfl ?_); refine box_event ?hg (N := 3) ?hd (cs := #[.int .i64 a0_0, .slice A0_1 l0_1.length c0_1, .slice A0_2 l0_2.length c0_2]) (t := 25) ?hr ?_; (case hd => rfl); (case hg => rfl); (case hr => first | (go_simp; done) | (go_simp; rfl)); intro gb475 hg w13 hbox hb; have n0_ := Aside0.mk (below_step bel hb); have n1_ := Aside0.mk (hbox); have n2_ := Aside0.mk ((by rw [hg]; exact (below_size bel) : w.heap.size ≤ gb475)); have n3_ := n2_; clear HB; have HB := n0_; have BK475 := n1_; have GW475 := n2_; have GE475 := n3_; clear n0_ n1_ n2_ n3_; clear hb hbox hg) | ((with_reducible refine gate_dst (N := 6) rfl ?_); refine box_event ?hg (N := 6) ?hd (cs := #[.int .i64 0, .slice none 0 0, .slice none 0 0, .slice none 0 0]) (t := 96) ?hr ?_; (case hd => rfl); (case hg => rfl); (case hr => first | (go_simp; done) | (go_simp; rfl)); intro gb476 hg w14 hbox hb; have n0_ := Aside0.mk (blk_below (g := gb475) blkz hb); have n1_ := Aside0.mk (below_step bel hb); have n2_ := Aside0.mk (hbox); have n3_ := Aside0.mk ((by rw [hg]; exact (below_size bel) : w.heap.size ≤ gb476)); have n4_ := n3_; have n5_ := Aside0.mk ((by rw [hg]; exact Nat.ne_of_lt (blk_lt (g := gb475) (o := .cells #[.int .i64 a0_0, .slice A0_1 l0_1.length c0_1, .slice A0_2 l0_2.length c0_2] 25 (0, 0)) blkz) : gb475 ≠ gb476)); have n6_ := Aside0.mk ((by rw [hg]; exact Nat.ne_of_gt (blk_lt (g := gb475) (o := .cells #[.int .i64 a0_0, .slice A0_1 l0_1.length c0_1, .slice A0_2 l0_2.length c0_2] 25 (0, 0)) blkz) : gb476 ≠ gb475)); clear BK475; clear HB; have BK475 := n0_; have HB := n1_; have BK476 := n2_; have GW476 := n3_; have GE476 := n4_; have NB475_476 := n5_; have NB476_475 := n6_; clear n0_ n1_ n2_ n3_ n4_ n5_ n6_; clear hb hbox hg; have hnb15 := NB475_476.out; have hnc15 := NB476_475.out; have hcz16_0 := blkc BK475.out 0 (.int .i64 a0_0) rfl; have hcz16_1 := blkc BK475.out 1 (.slice A0_1 l0_1.length c0_1) rfl; have hcz16_2 := blkc BK475.out 2 (.slice A0_2 l0_2.length c0_2) rfl; have hfz16_0 := blk_frozen BK475.out 0; have hfz16_1 := blk_frozen BK475.out 1; have hfz16_2 := blk_frozen BK475.out 2) | ((with_reducible refine gate_dst (N := 8) rfl ?_); refine box_event ?hg (N := 8) ?hd (cs := #[.int .i64 0, .slice none 0 0, .slice none 0 0, .slice none 0 0]) (t := 96) ?hr ?_; (case hd => rfl); (case hg => rfl); (case hr => first | (go_simp; done) | (go_simp; rfl)); intro gb477 hg w17 hbox hb; have n0_ := Aside0.mk (blk_below (g := gb475) blkz hb); have n1_ := Aside0.mk (blk_below (g := gb476) blkz hb); have n2_ := Aside0.mk (below_step bel hb); have n3_ := Aside0.mk (hbox); have n4_ := Aside0.mk ((by rw [hg]; exact (below_size bel) : w.heap.size ≤ gb477)); have n5_ := n4_; have n6_ := Aside0.mk ((by rw [hg]; exact Nat.ne_of_lt (blk_lt (g := gb475) (o := .cells #[.int .i64 a0_0, .slice A0_1 l0_1.length c0_1, .slice A0_2 l0_2.length c0_2] 25 (0, 0)) blkz) : gb475 ≠ gb477)); have n7_ := Aside0.mk ((by rw [hg]; exact Nat.ne_of_gt (blk_lt (g := gb475) (o := .cells #[.int .i64 a0_0, .slice A0_1 l0_1.length c0_1, .slice A0_2 l0_2.length c0_2] 25 (0, 0)) blkz) : gb477 ≠ gb475)); have n8_ := Aside0.mk ((by rw [hg]; exact Nat.ne_of_lt (blk_lt (g := gb476) (o := .cells #[.int .i64 0, .slice none 0 0, .slice none 0 0, .slice none 0 0] 96 (0, 0)) blkz) : gb476 ≠ gb477)); have n9_ := Aside0.mk ((by rw [hg]; exact Nat.ne_of_gt (blk_lt (g := gb476) (o := .cells #[.int .i64 0, .slice none 0 0, .slice none 0 0, .slice none 0 0] 96 (0, 0)) blkz) : gb477 ≠ gb476)); clear BK475; clear BK476; clear HB; have BK475 := n0_; have BK476 := n1_; have HB := n2_; have BK477 := n3_; have GW477 := n4_; have GE477 := n5_; have NB475_477 := n6_; have NB477_475 := n7_; have NB476_477 := n8_; have NB477_476 := n9_; clear n0_ n1_ n2_ n3_ n4_ n5_ n6_ n7_ n8_ n9_; clear hb hbox hg; have hnb18 := NB477_475.out; have hnc18 := NB475_477.out; have hnb19 := NB477_476.out; have hnc19 := NB476_477.out; have hcz20_0 := blkc BK477.out 0 (.int .i64 0) rfl; have hcz20_1 := blkc BK477.out 1 (.slice none 0 0) rfl; have hcz20_2 := blkc BK477.out 2 (.slice none 0 0) rfl; have hcz20_3 := blkc BK477.out 3 (.slice none 0 0) rfl; have hfz20_0 := blk_frozen BK477.out 0; have hfz20_1 := blk_frozen BK477.out 1; have hfz20_2 := blk_frozen BK477.out 2; have hfz20_3 := blk_frozen BK477.out 3; have hcz21_0 := blkc BK475.out 0 (.int .i64 a0_0) rfl; have hcz21_1 := blkc BK475.out 1 (.slice A0_1 l0_1.length c0_1) rfl; have hcz21_2 := blkc BK475.out 2 (.slice A0_2 l0_2.length c0_2) rfl; have hfz21_0 := blk_frozen BK475.out 0; have hfz21_1 := blk_frozen BK475.out 1; have hfz21_2 := blk_frozen BK475.out 2) | ((with_reducible refine gate_callee (f := 19) rfl ?_); refine goesL_ (some 15) rfl rfl Tryd.func19 (by kernel_rfl) rfl #[.agg #[.int .i64 a0_0, .slice A0_1 l0_1.length c0_1, .slice A0_2 l0_2.length c0_2]] rfl mapz ?_; (with_reducible refine (feed_Valid.calls a0_0 _ _ l0_1 _ _ l0_2 true _ ?side1 ?side2 ?side3 ?side4 A4.out).mono ?_); (case side1 => exact cbz HR0_1); (case side2 => exact HC0_1.out); (case side3 => exact cbz HR0_2); (case side4 => exact HC0_2.out); rintro e w22 ⟨rfl, hb⟩; refine ⟨_, rfl, ?_⟩; have n0_ := Aside0.mk (blk_below (g := gb475) (o := .cells #[.int .i64 a0_0, .slice A0_1 l0_1.length c0_1, .slice A0_2 l0_2.length c0_2] 25 (0, 0)) (by (with_reducible repeat (first | refine blk_drewN ?_ _ | refine blk_drew ?_ | refine blk_alloc ?_ _)); refine blk_far ?_ NB475_477.out _; (with_reducible repeat (first | refine blk_drewN ?_ _ | refine blk_drew ?_ | refine blk_alloc ?_ _)); refine blk_far ?_ NB475_477.out _; (with_reducible repeat (first | refine blk_drewN ?_ _ | refine blk_drew ?_ | refine blk_alloc ?_ _)); refine blk_far ?_ NB475_477.out _; (with_reducible repeat (first | refine blk_drewN ?_ _ | refine blk_drew ?_ | refine blk_alloc ?_ _)); refine blk_far ?_ NB475_477.out _; (with_reducible repeat (first | refine blk_drewN ?_ _ | refine blk_drew ?_ | refine blk_alloc ?_ _)); exact BK475.out) hb); have n1_ := Aside0.mk (blk_below (g := gb476) (o := .cells #[.int .i64 0, .slice none 0 0, .slice none 0 0, .slice none 0 0] 96 (0, 0)) (by (with_reducible repeat (first | refine blk_drewN ?_ _ | refine blk_drew ?_ | refine blk_alloc ?_ _)); refine blk_far ?_ NB476_477.out _; (with_reducible repeat (first | refine blk_drewN ?_ _ | refine blk_drew ?_ | refine blk_alloc ?_ _)); refine blk_far ?_ NB476_477.out _; (with_reducible repeat (first | refine blk_drewN ?_ _ | refine blk_drew ?_ | refine blk_alloc ?_ _)); refine blk_far ?_ NB476_477.out _; (with_reducible repeat (first | refine blk_drewN ?_ _ | refine blk_drew ?_ | refine blk_alloc ?_ _)); refine blk_far ?_ NB476_477.out _; (with_reducible repeat (first | refine blk_drewN ?_ _ | refine blk_drew ?_ | refine blk_alloc ?_ _)); exact BK476.out) hb); have n2_ := Aside0.mk (blk_below (g := gb477) (o := .cells #[.int .i64 a0_0, .slice A0_1 l0_1.length c0_1, .slice A0_2 l0_2.length c0_2, .slice A2 l2.length c2] 96 (0, 0)) (by (with_reducible repeat (first | refine blk_drewN ?_ _ | refine blk_drew ?_ | refine blk_alloc ?_ _)); refine blk_put (cs := #[.int .i64 a0_0, .slice A0_1 l0_1.length c0_1, .slice A0_2 l0_2.length c0_2, .slice none 0 0]) ?_ 3 _ rfl; (with_reducible repeat (first | refine blk_drewN ?_ _ | refine blk_drew ?_ | refine blk_alloc ?_ _)); refine blk_put (cs := #[.int .i64 a0_0, .slice A0_1 l0_1.length c0_1, .slice none 0 0, .slice none 0 0]) ?_ 2 _ rfl; (with_reducible repeat (first | refine blk_drewN ?_ _ | refine blk_drew ?_ | refine blk_alloc ?_ _)); refine blk_put (cs := #[.int .i64 a0_0, .slice none 0 0, .slice none 0 0, .slice none 0 0]) ?_ 1 _ rfl; (with_reducible repeat (first | refine blk_drewN ?_ _ | refine blk_drew ?_ | refine blk_alloc ?_ _)); refine blk_put (cs := #[.int .i64 0, .slice none 0 0, .slice none 0 0, .slice none 0 0]) ?_ 0 _ rfl; (with_reducible repeat (first | refine blk_drewN ?_ _ | refine blk_drew ?_ | refine blk_alloc ?_ _)); exact BK477.out) hb); have n3_ := Aside0.mk (below_step bel hb); clear BK475; clear BK476; clear BK477; clear HB; have BK475 := n0_; have BK476 := n1_; have BK477 := n2_; have HB := n3_; clear n0_ n1_ n2_ n3_; (try clear hb); (try clear hb2); (try clear hk); (try clear hi); have hcz23_0 := blkc BK477.out 0 (.int .i64 a0_0) rfl; have hcz23_1 := blkc BK477.out 1 (.slice A0_1 l0_1.length c0_1) rfl; have hcz23_2 := blkc BK477.out 2 (.slice A0_2 l0_2.length c0_2) rfl; have hcz23_3 := blkc BK477.out 3 (.slice A2 l2.length c2) rfl; have hfz23_0 := blk_frozen BK477.out 0; have hfz23_1 := blk_frozen BK477.out 1; have hfz23_2 := blk_frozen BK477.out 2; have hfz23_3 := blk_frozen BK477.out 3) | ((with_reducible refine gate_callee (f := 84) rfl ?_); refine goesL_ (some 19) rfl rfl Tryd.func84 (by kernel_rfl) rfl #[.agg #[.int .i64 a0_0, .slice A0_1 l0_1.length c0_1, .slice A0_2 l0_2.length c0_2, .slice A2 l2.length c2]] rfl mapz ?_; (with_reducible refine (feed_rule_kept.calls k a0_0 _ _ l0_1 _ _ l0_2 _ _ l2 t479 _ ?side1 ?side2 ?side3 ?side4 ?side5 ?side6 A6.out).mono ?_); (case side1 => exact cbz HR0_1); (case side2 => exact HC0_1.out); (case side3 => exact cbz HR0_2); (case side4 => exact HC0_2.out); (case side5 => exact cbz HR2); (case side6 => exact HC2.out); rintro e w24 ⟨rfl, hb⟩; refine ⟨_, rfl, ?_⟩; have n0_ := Aside0.mk (blk_below (g := gb475) blkz hb); have n1_ := Aside0.mk (blk_below (g := gb476) blkz hb); have n2_ := Aside0.mk (blk_below (g := gb477) blkz hb); have n3_ := Aside0.mk (below_step bel hb); clear BK475; clear BK476; clear BK477; clear HB; have BK475 := n0_; have BK476 := n1_; have BK477 := n2_; have HB := n3_; clear n0_ n1_ n2_ n3_; (try clear hb); (try clear hb2); (try clear hk); (try clear hi); have hcz25_0 := blkc BK477.out 0 (.int .i64 a0_0) rfl; have hcz25_1 := blkc BK477.out 1 (.slice A0_1 l0_1.length c0_1) rfl; have hcz25_2 := blkc BK477.out 2 (.slice A0_2 l0_2.length c0_2) rfl; have hcz25_3 := blkc BK477.out 3 (.slice A2 l2.length c2) rfl; have hfz25_0 := blk_frozen BK477.out 0; have hfz25_1 := blk_frozen BK477.out 1; have hfz25_2 := blk_frozen BK477.out 2; have hfz25_3 := blk_frozen BK477.out 3) | ((with_reducible refine gate_callee (f := 52) rfl ?_); refine goesL_ (some 27) rfl rfl Tryd.func52 (by kernel_rfl) rfl #[.agg #[.int .i64 a0_0, .slice A0_1 l0_1.length c0_1, .slice A0_2 l0_2.length c0_2]] rfl mapz ?_; (with_reducible refine (feed_grid_all.calls a0_0 _ _ l0_1 _ _ l0_2 t480 _ ?side1 ?side2 ?side3 ?side4 A8.out).mono ?_); (case side1 => exact cbz HR0_1); (case side2 => exact HC0_1.out); (case side3 => exact cbz HR0_2); (case side4 => exact HC0_2.out); rintro e w26 ⟨rfl, hb⟩; refine ⟨_, rfl, ?_⟩; have n0_ := Aside0.mk (blk_below (g := gb475) blkz hb); have n1_ := Aside0.mk (blk_below (g := gb476) blkz hb); have n2_ := Aside0.mk (blk_below (g := gb477) blkz hb); have n3_ := Aside0.mk (below_step bel hb); clear BK475; clear BK476; clear BK477; clear HB; have BK475 := n0_; have BK476 := n1_; have BK477 := n2_; have HB := n3_; clear n0_ n1_ n2_ n3_; (try clear hb); (try clear hb2); (try clear hk); (try clear hi)) | ((with_reducible refine gate_callee (f := 53) rfl ?_); refine goesL_ (some 29) rfl rfl Tryd.func53 (by kernel_rfl) rfl #[.int .i64 0, .int .i64 a1, .int .i64 (wrap64 (t480 - 1))] rfl mapz ?_; (with_reducible refine (feed_within.calls 0 a1 (wrap64 (t480 - 1)) true _ A9.out).mono ?_); rintro e w' ⟨rfl, ⟨nd, rfl⟩⟩; refine ⟨_, rfl, ?_⟩; (try (rw [drewN_self w26]; generalize hq_ : World.drewN w26 _ = w26; have n0_ : Aside0 (w26.heap[gb475]? = some (.cells #[.int .i64 a0_0, .slice A0_1 l0_1.length c0_1, .slice A0_2 l0_2.length c0_2] 25 (0, 0))) := ⟨by rw [← hq_]; exact blkz⟩; have n1_ : Aside0 (w26.heap[gb476]? = some (.cells #[.int .i64 0, .slice none 0 0, .slice none 0 0, .slice none 0 0] 96 (0, 0))) := ⟨by rw [← hq_]; exact blkz⟩; have n2_ : Aside0 (w26.heap[gb477]? = some (.cells #[.int .i64 a0_0, .slice A0_1 l0_1.length c0_1, .slice A0_2 l0_2.length c0_2, .slice A2 l2.length c2] 96 (0, 0))) := ⟨by rw [← hq_]; exact blkz⟩; have n3_ : Aside0 (Below w.heap.size w w26) := ⟨by rw [← hq_]; exact bel⟩; clear BK475 BK476 BK477 HB hq_; have BK475 := n0_; have BK476 := n1_; have BK477 := n2_; have HB := n3_; clear n0_ n1_ n2_ n3_)); have hcz27_0 := blkc BK477.out 0 (.int .i64 a0_0) rfl; have hcz27_1 := blkc BK477.out 1 (.slice A0_1 l0_1.length c0_1) rfl; have hcz27_2 := blkc BK477.out 2 (.slice A0_2 l0_2.length c0_2) rfl; have hcz27_3 := blkc BK477.out 3 (.slice A2 l2.length c2) rfl; have hfz27_0 := blk_frozen BK477.out 0; have hfz27_1 := blk_frozen BK477.out 1; have hfz27_2 := blk_frozen BK477.out 2; have hfz27_3 := blk_frozen BK477.out 3) | (go_at_call 85; (with_reducible refine (feed_rule_keeps.calls k a0_0 _ _ l0_1 _ _ l0_2 _ _ l2 a1 true _ ?side1 ?side2 ?side3 ?side4 ?side5 ?side6 ?sideT A11.out).mono ?_); (case sideT => first | exact HT.out | exact Tab.Tabs.below HT.out bel | (with_reducible repeat (first | exact HT.out | apply Tab.Tabs.alloc | apply Tab.Tabs.drewN | apply Tab.Tabs.drew))); (case side1 => exact cbz HR0_1); (case side2 => exact HC0_1.out); (case side3 => exact cbz HR0_2); (case side4 => exact HC0_2.out); (case side5 => exact cbz HR2); (case side6 => exact HC2.out); rintro e w28 ⟨rfl, hb⟩; have n0_ := Aside0.mk (blk_below (g := gb475) blkz hb); have n1_ := Aside0.mk (blk_below (g := gb476) blkz hb); have n2_ := Aside0.mk (blk_below (g := gb477) blkz hb); have n3_ := Aside0.mk (below_step bel hb); clear BK475; clear BK476; clear BK477; clear HB; have BK475 := n0_; have BK476 := n1_; have BK477 := n2_; have HB := n3_; clear n0_ n1_ n2_ n3_; (try clear hb); (try clear hb2); (try clear hk); (try clear hi); have hcz29_0 := blkc BK477.out 0 (.int .i64 a0_0) rfl; have hcz29_1 := blkc BK477.out 1 (.slice A0_1 l0_1.length c0_1) rfl; have hcz29_2 := blkc BK477.out 2 (.slice A0_2 l0_2.length c0_2) rfl; have hcz29_3 := blkc BK477.out 3 (.slice A2 l2.length c2) rfl; have hfz29_0 := blk_frozen BK477.out 0; have hfz29_1 := blk_frozen BK477.out 1; have hfz29_2 := blk_frozen BK477.out 2; have hfz29_3 := blk_frozen BK477.out 3; have hcz30_0 := blkc BK476.out 0 (.int .i64 0) rfl; have hcz30_1 := blkc BK476.out 1 (.slice none 0 0) rfl; have hcz30_2 := blkc BK476.out 2 (.slice none 0 0) rfl; have hcz30_3 := blkc BK476.out 3 (.slice none 0 0) rfl; have hfz30_0 := blk_frozen BK476.out 0; have hfz30_1 := blk_frozen BK476.out 1; have hfz30_2 := blk_frozen BK476.out 2; have hfz30_3 := blk_frozen BK476.out 3))
     refine bodyPost_ret (results_ct rfl _ _ gb476 96 #[.int .i64 a0_0, .slice A0_1 l0_1.length c0_1, .slice A0_2 l0_2.length c0_2, .slice A2 l2.length c2] (0, 0) _ rfl (by (with_reducible repeat (first | refine blk_drewN ?_ _ | refine blk_drew ?_ | refine blk_alloc ?_ _)); refine blk_put (cs := #[.int .i64 a0_0, .slice A0_1 l0_1.length c0_1, .slice A0_2 l0_2.length c0_2, .slice none 0 0]) ?_ 3 _ rfl; (with_reducible repeat (first | refine blk_drewN ?_ _ | refine blk_drew ?_ | refine blk_alloc ?_ _)); refine blk_put (cs := #[.int .i64 a0_0, .slice A0_1 l0_1.length c0_1, .slice none 0 0, .slice none 0 0]) ?_ 2 _ rfl; (with_reducible repeat (first | refine blk_drewN ?_ _ | refine blk_drew ?_ | refine blk_alloc ?_ _)); refine blk_put (cs := #[.int .i64 a0_0, .slice none 0 0, .slice none 0 0, .slice none 0 0]) ?_ 1 _ rfl; (with_reducible repeat (first | refine blk_drewN ?_ _ | refine blk_drew ?_ | refine blk_alloc ?_ _)); refine blk_put (cs := #[.int .i64 0, .slice none 0 0, .slice none 0 0, .slice none 0 0]) ?_ 0 _ rfl; (with_reducible repeat (first | refine blk_drewN ?_ _ | refine blk_drew ?_ | refine blk_alloc ?_ _)); exact BK476.out) Tryd.underlying96 rfl (by kernel_rfl)) rfl ?_
     exact ⟨by first | rfl | (simp [errW_none, errW_some] <;> rfl) | (simp [*, errW_none, errW_some] <;> rfl), by repeat (first | (with_reducible first | exact HB.out | apply below_alloc | apply pw_below_drewN | apply below_drew1 | refine below_set ?_ GE475.out | refine below_set ?_ GE476.out | refine below_set ?_ GE477.out) | exact HB.out)⟩
    ·
     replace c12 := Bool.eq_false_iff.mpr c12
     subst c12
     have H1 : (some (a0_0, 51)) = some (r1, r2) := by rw [if_neg (show ¬ (false = true) by decide)] at H; exact H
     clear H
     have H := H1
     clear H1
     simp only [Option.some.injEq, Prod.mk.injEq] at H
     obtain ⟨rfl, rfl⟩ := H
     go_enter Tryd.func69, Tryd.ntmps69
     go_wp2_with (first | ((with_reducible refine gate_dst (N := 3) rfl ?_); refine box_event ?hg (N := 3) ?hd (cs := #[.int .i64 a0_0, .slice A0_1 l0_1.length c0_1, .slice A0_2 l0_2.length c0_2]) (t := 25) ?hr ?_; (case hd => rfl); (case hg => rfl); (case hr => first | (go_simp; done) | (go_simp; rfl)); intro gb475 hg w31 hbox hb; have n0_ := Aside0.mk (below_step bel hb); have n1_ := Aside0.mk (hbox); have n2_ := Aside0.mk ((by rw [hg]; exact (below_size bel) : w.heap.size ≤ gb475)); have n3_ := n2_; clear HB; have HB := n0_; have BK475 := n1_; have GW475 := n2_; have GE475 := n3_; clear n0_ n1_ n2_ n3_; clear hb hbox hg) | ((with_reducible refine gate_dst (N := 6) rfl ?_); refine box_event ?hg (N := 6) ?hd (cs := #[.int .i64 0, .slice none 0 0, .slice none 0 0, .slice none 0 0]) (t := 96) ?hr ?_; (case hd => rfl); (case hg => rfl); (case hr => first | (go_simp; done) | (go_simp; rfl)); intro gb476 hg w32 hbox hb; have n0_ := Aside0.mk (blk_below (g := gb475) blkz hb); have n1_ := Aside0.mk (below_step bel hb); have n2_ := Aside0.mk (hbox); have n3_ := Aside0.mk ((by rw [hg]; exact (below_size bel) : w.heap.size ≤ gb476)); have n4_ := n3_; have n5_ := Aside0.mk ((by rw [hg]; exact Nat.ne_of_lt (blk_lt (g := gb475) (o := .cells #[.int .i64 a0_0, .slice A0_1 l0_1.length c0_1, .slice A0_2 l0_2.length c0_2] 25 (0, 0)) blkz) : gb475 ≠ gb476)); have n6_ := Aside0.mk ((by rw [hg]; exact Nat.ne_of_gt (blk_lt (g := gb475) (o := .cells #[.int .i64 a0_0, .slice A0_1 l0_1.length c0_1, .slice A0_2 l0_2.length c0_2] 25 (0, 0)) blkz) : gb476 ≠ gb475)); clear BK475; clear HB; have BK475 := n0_; have HB := n1_; have BK476 := n2_; have GW476 := n3_; have GE476 := n4_; have NB475_476 := n5_; have NB476_475 := n6_; clear n0_ n1_ n2_ n3_ n4_ n5_ n6_; clear hb hbox hg; have hnb33 := NB475_476.out; have hnc33 := NB476_475.out; have hcz34_0 := blkc BK475.out 0 (.int .i64 a0_0) rfl; have hcz34_1 := blkc BK475.out 1 (.slice A0_1 l0_1.length c0_1) rfl; have hcz34_2 := blkc BK475.out 2 (.slice A0_2 l0_2.length c0_2) rfl; have hfz34_0 := blk_frozen BK475.out 0; have hfz34_1 := blk_frozen BK475.out 1; have hfz34_2 := blk_frozen BK475.out 2) | ((with_reducible refine gate_dst (N := 8) rfl ?_); refine box_event ?hg (N := 8) ?hd (cs := #[.int .i64 0, .slice none 0 0, .slice none 0 0, .slice none 0 0]) (t := 96) ?hr ?_; (case hd => rfl); (case hg => rfl); (case hr => first | (go_simp; done) | (go_simp; rfl)); intro gb477 hg w35 hbox hb; have n0_ := Aside0.mk (blk_below (g := gb475) blkz hb); have n1_ := Aside0.mk (blk_below (g := gb476) blkz hb); have n2_ := Aside0.mk (below_step bel hb); have n3_ := Aside0.mk (hbox); have n4_ := Aside0.mk ((by rw [hg]; exact (below_size bel) : w.heap.size ≤ gb477)); have n5_ := n4_; have n6_ := Aside0.mk ((by rw [hg]; exact Nat.ne_of_lt (blk_lt (g := gb475) (o := .cells #[.int .i64 a0_0, .slice A0_1 l0_1.length c0_1, .slice A0_2 l0_2.length c0_2] 25 (0, 0)) blkz) : gb475 ≠ gb477)); have n7_ := Aside0.mk ((by rw [hg]; exact Nat.ne_of_gt (blk_lt (g := gb475) (o := .cells #[.int .i64 a0_0, .slice A0_1 l0_1.length c0_1, .slice A0_2 l0_2.length c0_2] 25 (0, 0)) blkz) : gb477 ≠ gb475)); have n8_ := Aside0.mk ((by rw [hg]; exact Nat.ne_of_lt (blk_lt (g := gb476) (o := .cells #[.int .i64 0, .slice none 0 0, .slice none 0 0, .slice none 0 0] 96 (0, 0)) blkz) : gb476 ≠ gb477)); have n9_ := Aside0.mk ((by rw [hg]; exact Nat.ne_of_gt (blk_lt (g := gb476) (o := .cells #[.int .i64 0, .slice none 0 0, .slice none 0 0, .slice none 0 0] 96 (0, 0)) blkz) : gb477 ≠ gb476)); clear BK475; clear BK476; clear HB; have BK475 := n0_; have BK476 := n1_; have HB := n2_; have BK477 := n3_; have GW477 := n4_; have GE477 := n5_; have NB475_477 := n6_; have NB477_475 := n7_; have NB476_477 := n8_; have NB477_476 := n9_; clear n0_ n1_ n2_ n3_ n4_ n5_ n6_ n7_ n8_ n9_; clear hb hbox hg; have hnb36 := NB477_475.out; have hnc36 := NB475_477.out; have hnb37 := NB477_476.out; have hnc37 := NB476_477.out; have hcz38_0 := blkc BK477.out 0 (.int .i64 0) rfl; have hcz38_1 := blkc BK477.out 1 (.slice none 0 0) rfl; have hcz38_2 := blkc BK477.out 2 (.slice none 0 0) rfl; have hcz38_3 := blkc BK477.out 3 (.slice none 0 0) rfl; have hfz38_0 := blk_frozen BK477.out 0; have hfz38_1 := blk_frozen BK477.out 1; have hfz38_2 := blk_frozen BK477.out 2; have hfz38_3 := blk_frozen BK477.out 3; have hcz39_0 := blkc BK475.out 0 (.int .i64 a0_0) rfl; have hcz39_1 := blkc BK475.out 1 (.slice A0_1 l0_1.length c0_1) rfl; have hcz39_2 := blkc BK475.out 2 (.slice A0_2 l0_2.length c0_2) rfl; have hfz39_0 := blk_frozen BK475.out 0; have hfz39_1 := blk_frozen BK475.out 1; have hfz39_2 := blk_frozen BK475.out 2) | ((with_reducible refine gate_callee (f := 19) rfl ?_); refine goesL_ (some 15) rfl rfl Tryd.func19 (by kernel_rfl) rfl #[.agg #[.int .i64 a0_0, .slice A0_1 l0_1.length c0_1, .slice A0_2 l0_2.length c0_2]] rfl mapz ?_; (with_reducible refine (feed_Valid.calls a0_0 _ _ l0_1 _ _ l0_2 true _ ?side1 ?side2 ?side3 ?side4 A4.out).mono ?_); (case side1 => exact cbz HR0_1); (case side2 => exact HC0_1.out); (case side3 => exact cbz HR0_2); (case side4 => exact HC0_2.out); rintro e w40 ⟨rfl, hb⟩; refine ⟨_, rfl, ?_⟩; have n0_ := Aside0.mk (blk_below (g := gb475) (o := .cells #[.int .i64 a0_0, .slice A0_1 l0_1.length c0_1, .slice A0_2 l0_2.length c0_2] 25 (0, 0)) (by (with_reducible repeat (first | refine blk_drewN ?_ _ | refine blk_drew ?_ | refine blk_alloc ?_ _)); refine blk_far ?_ NB475_477.out _; (with_reducible repeat (first | refine blk_drewN ?_ _ | refine blk_drew ?_ | refine blk_alloc ?_ _)); refine blk_far ?_ NB475_477.out _; (with_reducible repeat (first | refine blk_drewN ?_ _ | refine blk_drew ?_ | refine blk_alloc ?_ _)); refine blk_far ?_ NB475_477.out _; (with_reducible repeat (first | refine blk_drewN ?_ _ | refine blk_drew ?_ | refine blk_alloc ?_ _)); refine blk_far ?_ NB475_477.out _; (with_reducible repeat (first | refine blk_drewN ?_ _ | refine blk_drew ?_ | refine blk_alloc ?_ _)); exact BK475.out) hb); have n1_ := Aside0.mk (blk_below (g := gb476) (o := .cells #[.int .i64 0, .slice none 0 0, .slice none 0 0, .slice none 0 0] 96 (0, 0)) (by (with_reducible repeat (first | refine blk_drewN ?_ _ | refine blk_drew ?_ | refine blk_alloc ?_ _)); refine blk_far ?_ NB476_477.out _; (with_reducible repeat (first | refine blk_drewN ?_ _ | refine blk_drew ?_ | refine blk_alloc ?_ _)); refine blk_far ?_ NB476_477.out _; (with_reducible repeat (first | refine blk_drewN ?_ _ | refine blk_drew ?_ | refine blk_alloc ?_ _)); refine blk_far ?_ NB476_477.out _; (with_reducible repeat (first | refine blk_drewN ?_ _ | refine blk_drew ?_ | refine blk_alloc ?_ _)); refine blk_far ?_ NB476_477.out _; (with_reducible repeat (first | refine blk_drewN ?_ _ | refine blk_drew ?_ | refine blk_alloc ?_ _)); exact BK476.out) hb); have n2_ := Aside0.mk (blk_below (g := gb477) (o := .cells #[.int .i64 a0_0, .slice A0_1 l0_1.length c0_1, .slice A0_2 l0_2.length c0_2, .slice A2 l2.length c2] 96 (0, 0)) (by (with_reducible repeat (first | refine blk_drewN ?_ _ | refine blk_drew ?_ | refine blk_alloc ?_ _)); refine blk_put (cs := #[.int .i64 a0_0, .slice A0_1 l0_1.length c0_1, .slice A0_2 l0_2.length c0_2, .slice none 0 0]) ?_ 3 _ rfl; (with_reducible repeat (first | refine blk_drewN ?_ _ | refine blk_drew ?_ | refine blk_alloc ?_ _)); refine blk_put (cs := #[.int .i64 a0_0, .slice A0_1 l0_1.length c0_1, .slice none 0 0, .slice none 0 0]) ?_ 2 _ rfl; (with_reducible repeat (first | refine blk_drewN ?_ _ | refine blk_drew ?_ | refine blk_alloc ?_ _)); refine blk_put (cs := #[.int .i64 a0_0, .slice none 0 0, .slice none 0 0, .slice none 0 0]) ?_ 1 _ rfl; (with_reducible repeat (first | refine blk_drewN ?_ _ | refine blk_drew ?_ | refine blk_alloc ?_ _)); refine blk_put (cs := #[.int .i64 0, .slice none 0 0, .slice none 0 0, .slice none 0 0]) ?_ 0 _ rfl; (with_reducible repeat (first | refine blk_drewN ?_ _ | refine blk_drew ?_ | refine blk_alloc ?_ _)); exact BK477.out) hb); have n3_ := Aside0.mk (below_step bel hb); clear BK475; clear BK476; clear BK477; clear HB; have BK475 := n0_; have BK476 := n1_; have BK477 := n2_; have HB := n3_; clear n0_ n1_ n2_ n3_; (try clear hb); (try clear hb2); (try clear hk); (try clear hi); have hcz41_0 := blkc BK477.out 0 (.int .i64 a0_0) rfl; have hcz41_1 := blkc BK477.out 1 (.slice A0_1 l0_1.length c0_1) rfl; have hcz41_2 := blkc BK477.out 2 (.slice A0_2 l0_2.length c0_2) rfl; have hcz41_3 := blkc BK477.out 3 (.slice A2 l2.length c2) rfl; have hfz41_0 := blk_frozen BK477.out 0; have hfz41_1 := blk_frozen BK477.out 1; have hfz41_2 := blk_frozen BK477.out 2; have hfz41_3 := blk_frozen BK477.out 3) | ((with_reducible refine gate_callee (f := 84) rfl ?_); refine goesL_ (some 19) rfl rfl Tryd.func84 (by kernel_rfl) rfl #[.agg #[.int .i64 a0_0, .slice A0_1 l0_1.length c0_1, .slice A0_2 l0_2.length c0_2, .slice A2 l2.length c2]] rfl mapz ?_; (with_reducible refine (feed_rule_kept.calls k a0_0 _ _ l0_1 _ _ l0_2 _ _ l2 t479 _ ?side1 ?side2 ?side3 ?side4 ?side5 ?side6 A6.out).mono ?_); (case side1 => exact cbz HR0_1); (case side2 => exact HC0_1.out); (case side3 => exact cbz HR0_2); (case side4 => exact HC0_2.out); (case side5 => exact cbz HR2); (case side6 => exact HC2.out); rintro e w42 ⟨rfl, hb⟩; refine ⟨_, rfl, ?_⟩; have n0_ := Aside0.mk (blk_below (g := gb475) blkz hb); have n1_ := Aside0.mk (blk_below (g := gb476) blkz hb); have n2_ := Aside0.mk (blk_below (g := gb477) blkz hb); have n3_ := Aside0.mk (below_step bel hb); clear BK475; clear BK476; clear BK477; clear HB; have BK475 := n0_; have BK476 := n1_; have BK477 := n2_; have HB := n3_; clear n0_ n1_ n2_ n3_; (try clear hb); (try clear hb2); (try clear hk); (try clear hi); have hcz43_0 := blkc BK477.out 0 (.int .i64 a0_0) rfl; have hcz43_1 := blkc BK477.out 1 (.slice A0_1 l0_1.length c0_1) rfl; have hcz43_2 := blkc BK477.out 2 (.slice A0_2 l0_2.length c0_2) rfl; have hcz43_3 := blkc BK477.out 3 (.slice A2 l2.length c2) rfl; have hfz43_0 := blk_frozen BK477.out 0; have hfz43_1 := blk_frozen BK477.out 1; have hfz43_2 := blk_frozen BK477.out 2; have hfz43_3 := blk_frozen BK477.out 3) | ((with_reducible refine gate_callee (f := 52) rfl ?_); refine goesL_ (some 27) rfl rfl Tryd.func52 (by kernel_rfl) rfl #[.agg #[.int .i64 a0_0, .slice A0_1 l0_1.length c0_1, .slice A0_2 l0_2.length c0_2]] rfl mapz ?_; (with_reducible refine (feed_grid_all.calls a0_0 _ _ l0_1 _ _ l0_2 t480 _ ?side1 ?side2 ?side3 ?side4 A8.out).mono ?_); (case side1 => exact cbz HR0_1); (case side2 => exact HC0_1.out); (case side3 => exact cbz HR0_2); (case side4 => exact HC0_2.out); rintro e w44 ⟨rfl, hb⟩; refine ⟨_, rfl, ?_⟩; have n0_ := Aside0.mk (blk_below (g := gb475) blkz hb); have n1_ := Aside0.mk (blk_below (g := gb476) blkz hb); have n2_ := Aside0.mk (blk_below (g := gb477) blkz hb); have n3_ := Aside0.mk (below_step bel hb); clear BK475; clear BK476; clear BK477; clear HB; have BK475 := n0_; have BK476 := n1_; have BK477 := n2_; have HB := n3_; clear n0_ n1_ n2_ n3_; (try clear hb); (try clear hb2); (try clear hk); (try clear hi)) | ((with_reducible refine gate_callee (f := 53) rfl ?_); refine goesL_ (some 29) rfl rfl Tryd.func53 (by kernel_rfl) rfl #[.int .i64 0, .int .i64 a1, .int .i64 (wrap64 (t480 - 1))] rfl mapz ?_; (with_reducible refine (feed_within.calls 0 a1 (wrap64 (t480 - 1)) true _ A9.out).mono ?_); rintro e w' ⟨rfl, ⟨nd, rfl⟩⟩; refine ⟨_, rfl, ?_⟩; (try (rw [drewN_self w44]; generalize hq_ : World.drewN w44 _ = w44; have n0_ : Aside0 (w44.heap[gb475]? = some (.cells #[.int .i64 a0_0, .slice A0_1 l0_1.length c0_1, .slice A0_2 l0_2.length c0_2] 25 (0, 0))) := ⟨by rw [← hq_]; exact blkz⟩; have n1_ : Aside0 (w44.heap[gb476]? = some (.cells #[.int .i64 0, .slice none 0 0, .slice none 0 0, .slice none 0 0] 96 (0, 0))) := ⟨by rw [← hq_]; exact blkz⟩; have n2_ : Aside0 (w44.heap[gb477]? = some (.cells #[.int .i64 a0_0, .slice A0_1 l0_1.length c0_1, .slice A0_2 l0_2.length c0_2, .slice A2 l2.length c2] 96 (0, 0))) := ⟨by rw [← hq_]; exact blkz⟩; have n3_ : Aside0 (Below w.heap.size w w44) := ⟨by rw [← hq_]; exact bel⟩; clear BK475 BK476 BK477 HB hq_; have BK475 := n0_; have BK476 := n1_; have BK477 := n2_; have HB := n3_; clear n0_ n1_ n2_ n3_)); have hcz45_0 := blkc BK477.out 0 (.int .i64 a0_0) rfl; have hcz45_1 := blkc BK477.out 1 (.slice A0_1 l0_1.length c0_1) rfl; have hcz45_2 := blkc BK477.out 2 (.slice A0_2 l0_2.length c0_2) rfl; have hcz45_3 := blkc BK477.out 3 (.slice A2 l2.length c2) rfl; have hfz45_0 := blk_frozen BK477.out 0; have hfz45_1 := blk_frozen BK477.out 1; have hfz45_2 := blk_frozen BK477.out 2; have hfz45_3 := blk_frozen BK477.out 3) | (go_at_call 85; (with_reducible refine (feed_rule_keeps.calls k a0_0 _ _ l0_1 _ _ l0_2 _ _ l2 a1 false _ ?side1 ?side2 ?side3 ?side4 ?side5 ?side6 ?sideT A11.out).mono ?_); (case sideT => first | exact HT.out | exact Tab.Tabs.below HT.out bel | (with_reducible repeat (first | exact HT.out | apply Tab.Tabs.alloc | apply Tab.Tabs.drewN | apply Tab.Tabs.drew))); (case side1 => exact cbz HR0_1); (case side2 => exact HC0_1.out); (case side3 => exact cbz HR0_2); (case side4 => exact HC0_2.out); (case side5 => exact cbz HR2); (case side6 => exact HC2.out); rintro e w46 ⟨rfl, hb⟩; have n0_ := Aside0.mk (blk_below (g := gb475) blkz hb); have n1_ := Aside0.mk (blk_below (g := gb476) blkz hb); have n2_ := Aside0.mk (blk_below (g := gb477) blkz hb); have n3_ := Aside0.mk (below_step bel hb); clear BK475; clear BK476; clear BK477; clear HB; have BK475 := n0_; have BK476 := n1_; have BK477 := n2_; have HB := n3_; clear n0_ n1_ n2_ n3_; (try clear hb); (try clear hb2); (try clear hk); (try clear hi); have hcz47_0 := blkc BK477.out 0 (.int .i64 a0_0) rfl; have hcz47_1 := blkc BK477.out 1 (.slice A0_1 l0_1.length c0_1) rfl; have hcz47_2 := blkc BK477.out 2 (.slice A0_2 l0_2.length c0_2) rfl; have hcz47_3 := blkc BK477.out 3 (.slice A2 l2.length c2) rfl; have hfz47_0 := blk_frozen BK477.out 0; have hfz47_1 := blk_frozen BK477.out 1; have hfz47_2 := blk_frozen BK477.out 2; have hfz47_3 := blk_frozen BK477.out 3; have hcz48_0 := blkc BK476.out 0 (.int .i64 0) rfl; have hcz48_1 := blkc BK476.out 1 (.slice none 0 0) rfl; have hcz48_2 := blkc BK476.out 2 (.slice none 0 0) rfl; have hcz48_3 := blkc BK476.out 3 (.slice none 0 0) rfl; have hfz48_0 := blk_frozen BK476.out 0; have hfz48_1 := blk_frozen BK476.out 1; have hfz48_2 := blk_frozen BK476.out 2; have hfz48_3 := blk_frozen BK476.out 3))
     refine bodyPost_ret (results_ct rfl _ _ gb476 96 #[.int .i64 a0_0, .slice A0_1 l0_1.length c0_1, .slice A0_2 l0_2.length c0_2, .slice A2 l2.length c2] (0, 0) _ rfl (by (with_reducible repeat (first | refine blk_drewN ?_ _ | refine blk_drew ?_ | refine blk_alloc ?_ _)); refine blk_put (cs := #[.int .i64 a0_0, .slice A0_1 l0_1.length c0_1, .slice A0_2 l0_2.length c0_2, .slice none 0 0]) ?_ 3 _ rfl; (with_reducible repeat (first | refine blk_drewN ?_ _ | refine blk_drew ?_ | refine blk_alloc ?_ _)); refine blk_put (cs := #[.int .i64 a0_0, .slice A0_1 l0_1.length c0_1, .slice none 0 0, .slice none 0 0]) ?_ 2 _ rfl; (with_reducible repeat (first | refine blk_drewN ?_ _ | refine blk_drew ?_ | refine blk_alloc ?_ _)); refine blk_put (cs := #[.int .i64 a0_0, .slice none 0 0, .slice none 0 0, .slice none 0 0]) ?_ 1 _ rfl; (with_reducible repeat (first | refine blk_drewN ?_ _ | refine blk_drew ?_ | refine blk_alloc ?_ _)); refine blk_put (cs := #[.int .i64 0, .slice none 0 0, .slice none 0 0, .slice none 0 0]) ?_ 0 _ rfl; (with_reducible repeat (first | refine blk_drewN ?_ _ | refine blk_drew ?_ | refine blk_alloc ?_ _)); exact BK476.out) Tryd.underlying96 rfl (by kernel_rfl)) rfl ?_
     exact ⟨by first | rfl | (simp [errW_none, errW_some] <;> rfl) | (simp [*, errW_none, errW_some] <;> rfl), by repeat (first | (with_reducible first | exact HB.out | apply below_alloc | apply pw_below_drewN | apply below_drew1 | refine below_set ?_ GE475.out | refine below_set ?_ GE476.out | refine below_set ?_ GE477.out) | exact HB.out)⟩
   ·
    replace c10 := Bool.eq_false_iff.mpr c10
    subst c10
    have H1 : (some (a0_0, 51)) = some (r1, r2) := by rw [if_neg (show ¬ (false = true) by decide)] at H; exact H
    clear H
    have H := H1
    clear H1
    simp only [Option.some.injEq, Prod.mk.injEq] at H
    obtain ⟨rfl, rfl⟩ := H
    go_enter Tryd.func69, Tryd.ntmps69
    go_wp2_with (first | ((with_reducible refine gate_dst (N := 3) rfl ?_); refine box_event ?hg (N := 3) ?hd (cs := #[.int .i64 a0_0, .slice A0_1 l0_1.length c0_1, .slice A0_2 l0_2.length c0_2]) (t := 25) ?hr ?_; (case hd => rfl); (case hg => rfl); (case hr => first | (go_simp; done) | (go_simp; rfl)); intro gb475 hg w49 hbox hb; have n0_ := Aside0.mk (below_step bel hb); have n1_ := Aside0.mk (hbox); have n2_ := Aside0.mk ((by rw [hg]; exact (below_size bel) : w.heap.size ≤ gb475)); have n3_ := n2_; clear HB; have HB := n0_; have BK475 := n1_; have GW475 := n2_; have GE475 := n3_; clear n0_ n1_ n2_ n3_; clear hb hbox hg) | ((with_reducible refine gate_dst (N := 6) rfl ?_); refine box_event ?hg (N := 6) ?hd (cs := #[.int .i64 0, .slice none 0 0, .slice none 0 0, .slice none 0 0]) (t := 96) ?hr ?_; (case hd => rfl); (case hg => rfl); (case hr => first | (go_simp; done) | (go_simp; rfl)); intro gb476 hg w50 hbox hb; have n0_ := Aside0.mk (blk_below (g := gb475) blkz hb); have n1_ := Aside0.mk (below_step bel hb); have n2_ := Aside0.mk (hbox); have n3_ := Aside0.mk ((by rw [hg]; exact (below_size bel) : w.heap.size ≤ gb476)); have n4_ := n3_; have n5_ := Aside0.mk ((by rw [hg]; exact Nat.ne_of_lt (blk_lt (g := gb475) (o := .cells #[.int .i64 a0_0, .slice A0_1 l0_1.length c0_1, .slice A0_2 l0_2.length c0_2] 25 (0, 0)) blkz) : gb475 ≠ gb476)); have n6_ := Aside0.mk ((by rw [hg]; exact Nat.ne_of_gt (blk_lt (g := gb475) (o := .cells #[.int .i64 a0_0, .slice A0_1 l0_1.length c0_1, .slice A0_2 l0_2.length c0_2] 25 (0, 0)) blkz) : gb476 ≠ gb475)); clear BK475; clear HB; have BK475 := n0_; have HB := n1_; have BK476 := n2_; have GW476 := n3_; have GE476 := n4_; have NB475_476 := n5_; have NB476_475 := n6_; clear n0_ n1_ n2_ n3_ n4_ n5_ n6_; clear hb hbox hg; have hnb51 := NB475_476.out; have hnc51 := NB476_475.out; have hcz52_0 := blkc BK475.out 0 (.int .i64 a0_0) rfl; have hcz52_1 := blkc BK475.out 1 (.slice A0_1 l0_1.length c0_1) rfl; have hcz52_2 := blkc BK475.out 2 (.slice A0_2 l0_2.length c0_2) rfl; have hfz52_0 := blk_frozen BK475.out 0; have hfz52_1 := blk_frozen BK475.out 1; have hfz52_2 := blk_frozen BK475.out 2) | ((with_reducible refine gate_dst (N := 8) rfl ?_); refine box_event ?hg (N := 8) ?hd (cs := #[.int .i64 0, .slice none 0 0, .slice none 0 0, .slice none 0 0]) (t := 96) ?hr ?_; (case hd => rfl); (case hg => rfl); (case hr => first | (go_simp; done) | (go_simp; rfl)); intro gb477 hg w53 hbox hb; have n0_ := Aside0.mk (blk_below (g := gb475) blkz hb); have n1_ := Aside0.mk (blk_below (g := gb476) blkz hb); have n2_ := Aside0.mk (below_step bel hb); have n3_ := Aside0.mk (hbox); have n4_ := Aside0.mk ((by rw [hg]; exact (below_size bel) : w.heap.size ≤ gb477)); have n5_ := n4_; have n6_ := Aside0.mk ((by rw [hg]; exact Nat.ne_of_lt (blk_lt (g := gb475) (o := .cells #[.int .i64 a0_0, .slice A0_1 l0_1.length c0_1, .slice A0_2 l0_2.length c0_2] 25 (0, 0)) blkz) : gb475 ≠ gb477)); have n7_ := Aside0.mk ((by rw [hg]; exact Nat.ne_of_gt (blk_lt (g := gb475) (o := .cells #[.int .i64 a0_0, .slice A0_1 l0_1.length c0_1, .slice A0_2 l0_2.length c0_2] 25 (0, 0)) blkz) : gb477 ≠ gb475)); have n8_ := Aside0.mk ((by rw [hg]; exact Nat.ne_of_lt (blk_lt (g := gb476) (o := .cells #[.int .i64 0, .slice none 0 0, .slice none 0 0, .slice none 0 0] 96 (0, 0)) blkz) : gb476 ≠ gb477)); have n9_ := Aside0.mk ((by rw [hg]; exact Nat.ne_of_gt (blk_lt (g := gb476) (o := .cells #[.int .i64 0, .slice none 0 0, .slice none 0 0, .slice none 0 0] 96 (0, 0)) blkz) : gb477 ≠ gb476)); clear BK475; clear BK476; clear HB; have BK475 := n0_; have BK476 := n1_; have HB := n2_; have BK477 := n3_; have GW477 := n4_; have GE477 := n5_; have NB475_477 := n6_; have NB477_475 := n7_; have NB476_477 := n8_; have NB477_476 := n9_; clear n0_ n1_ n2_ n3_ n4_ n5_ n6_ n7_ n8_ n9_; clear hb hbox hg; have hnb54 := NB477_475.out; have hnc54 := NB475_477.out; have hnb55 := NB477_476.out; have hnc55 := NB476_477.out; have hcz56_0 := blkc BK477.out 0 (.int .i64 0) rfl; have hcz56_1 := blkc BK477.out 1 (.slice none 0 0) rfl; have hcz56_2 := blkc BK477.out 2 (.slice none 0 0) rfl; have hcz56_3 := blkc BK477.out 3 (.slice none 0 0) rfl; have hfz56_0 := blk_frozen BK477.out 0; have hfz56_1 := blk_frozen BK477.out 1; have hfz56_2 := blk_frozen BK477.out 2; have hfz56_3 := blk_frozen BK477.out 3; have hcz57_0 := blkc BK475.out 0 (.int .i64 a0_0) rfl; have hcz57_1 := blkc BK475.out 1 (.slice A0_1 l0_1.length c0_1) rfl; have hcz57_2 := blkc BK475.out 2 (.slice A0_2 l0_2.length c0_2) rfl; have hfz57_0 := blk_frozen BK475.out 0; have hfz57_1 := blk_frozen BK475.out 1; have hfz57_2 := blk_frozen BK475.out 2) | ((with_reducible refine gate_callee (f := 19) rfl ?_); refine goesL_ (some 15) rfl rfl Tryd.func19 (by kernel_rfl) rfl #[.agg #[.int .i64 a0_0, .slice A0_1 l0_1.length c0_1, .slice A0_2 l0_2.length c0_2]] rfl mapz ?_; (with_reducible refine (feed_Valid.calls a0_0 _ _ l0_1 _ _ l0_2 true _ ?side1 ?side2 ?side3 ?side4 A4.out).mono ?_); (case side1 => exact cbz HR0_1); (case side2 => exact HC0_1.out); (case side3 => exact cbz HR0_2); (case side4 => exact HC0_2.out); rintro e w58 ⟨rfl, hb⟩; refine ⟨_, rfl, ?_⟩; have n0_ := Aside0.mk (blk_below (g := gb475) (o := .cells #[.int .i64 a0_0, .slice A0_1 l0_1.length c0_1, .slice A0_2 l0_2.length c0_2] 25 (0, 0)) (by (with_reducible repeat (first | refine blk_drewN ?_ _ | refine blk_drew ?_ | refine blk_alloc ?_ _)); refine blk_far ?_ NB475_477.out _; (with_reducible repeat (first | refine blk_drewN ?_ _ | refine blk_drew ?_ | refine blk_alloc ?_ _)); refine blk_far ?_ NB475_477.out _; (with_reducible repeat (first | refine blk_drewN ?_ _ | refine blk_drew ?_ | refine blk_alloc ?_ _)); refine blk_far ?_ NB475_477.out _; (with_reducible repeat (first | refine blk_drewN ?_ _ | refine blk_drew ?_ | refine blk_alloc ?_ _)); refine blk_far ?_ NB475_477.out _; (with_reducible repeat (first | refine blk_drewN ?_ _ | refine blk_drew ?_ | refine blk_alloc ?_ _)); exact BK475.out) hb); have n1_ := Aside0.mk (blk_below (g := gb476) (o := .cells #[.int .i64 0, .slice none 0 0, .slice none 0 0, .slice none 0 0] 96 (0, 0)) (by (with_reducible repeat (first | refine blk_drewN ?_ _ | refine blk_drew ?_ | refine blk_alloc ?_ _)); refine blk_far ?_ NB476_477.out _; (with_reducible repeat (first | refine blk_drewN ?_ _ | refine blk_drew ?_ | refine blk_alloc ?_ _)); refine blk_far ?_ NB476_477.out _; (with_reducible repeat (first | refine blk_drewN ?_ _ | refine blk_drew ?_ | refine blk_alloc ?_ _)); refine blk_far ?_ NB476_477.out _; (with_reducible repeat (first | refine blk_drewN ?_ _ | refine blk_drew ?_ | refine blk_alloc ?_ _)); refine blk_far ?_ NB476_477.out _; (with_reducible repeat (first | refine blk_drewN ?_ _ | refine blk_drew ?_ | refine blk_alloc ?_ _)); exact BK476.out) hb); have n2_ := Aside0.mk (blk_below (g := gb477) (o := .cells #[.int .i64 a0_0, .slice A0_1 l0_1.length c0_1, .slice A0_2 l0_2.length c0_2, .slice A2 l2.length c2] 96 (0, 0)) (by (with_reducible repeat (first | refine blk_drewN ?_ _ | refine blk_drew ?_ | refine blk_alloc ?_ _)); refine blk_put (cs := #[.int .i64 a0_0, .slice A0_1 l0_1.length c0_1, .slice A0_2 l0_2.length c0_2, .slice none 0 0]) ?_ 3 _ rfl; (with_reducible repeat (first | refine blk_drewN ?_ _ | refine blk_drew ?_ | refine blk_alloc ?_ _)); refine blk_put (cs := #[.int .i64 a0_0, .slice A0_1 l0_1.length c0_1, .slice none 0 0, .slice none 0 0]) ?_ 2 _ rfl; (with_reducible repeat (first | refine blk_drewN ?_ _ | refine blk_drew ?_ | refine blk_alloc ?_ _)); refine blk_put (cs := #[.int .i64 a0_0, .slice none 0 0, .slice none 0 0, .slice none 0 0]) ?_ 1 _ rfl; (with_reducible repeat (first | refine blk_drewN ?_ _ | refine blk_drew ?_ | refine blk_alloc ?_ _)); refine blk_put (cs := #[.int .i64 0, .slice none 0 0, .slice none 0 0, .slice none 0 0]) ?_ 0 _ rfl; (with_reducible repeat (first | refine blk_drewN ?_ _ | refine blk_drew ?_ | refine blk_alloc ?_ _)); exact BK477.out) hb); have n3_ := Aside0.mk (below_step bel hb); clear BK475; clear BK476; clear BK477; clear HB; have BK475 := n0_; have BK476 := n1_; have BK477 := n2_; have HB := n3_; clear n0_ n1_ n2_ n3_; (try clear hb); (try clear hb2); (try clear hk); (try clear hi); have hcz59_0 := blkc BK477.out 0 (.int .i64 a0_0) rfl; have hcz59_1 := blkc BK477.out 1 (.slice A0_1 l0_1.length c0_1) rfl; have hcz59_2 := blkc BK477.out 2 (.slice A0_2 l0_2.length c0_2) rfl; have hcz59_3 := blkc BK477.out 3 (.slice A2 l2.length c2) rfl; have hfz59_0 := blk_frozen BK477.out 0; have hfz59_1 := blk_frozen BK477.out 1; have hfz59_2 := blk_frozen BK477.out 2; have hfz59_3 := blk_frozen BK477.out 3) | ((with_reducible refine gate_callee (f := 84) rfl ?_); refine goesL_ (some 19) rfl rfl Tryd.func84 (by kernel_rfl) rfl #[.agg #[.int .i64 a0_0, .slice A0_1 l0_1.length c0_1, .slice A0_2 l0_2.length c0_2, .slice A2 l2.length c2]] rfl mapz ?_; (with_reducible refine (feed_rule_kept.calls k a0_0 _ _ l0_1 _ _ l0_2 _ _ l2 t479 _ ?side1 ?side2 ?side3 ?side4 ?side5 ?side6 A6.out).mono ?_); (case side1 => exact cbz HR0_1); (case side2 => exact HC0_1.out); (case side3 => exact cbz HR0_2); (case side4 => exact HC0_2.out); (case side5 => exact cbz HR2); (case side6 => exact HC2.out); rintro e w60 ⟨rfl, hb⟩; refine ⟨_, rfl, ?_⟩; have n0_ := Aside0.mk (blk_below (g := gb475) blkz hb); have n1_ := Aside0.mk (blk_below (g := gb476) blkz hb); have n2_ := Aside0.mk (blk_below (g := gb477) blkz hb); have n3_ := Aside0.mk (below_step bel hb); clear BK475; clear BK476; clear BK477; clear HB; have BK475 := n0_; have BK476 := n1_; have BK477 := n2_; have HB := n3_; clear n0_ n1_ n2_ n3_; (try clear hb); (try clear hb2); (try clear hk); (try clear hi); have hcz61_0 := blkc BK477.out 0 (.int .i64 a0_0) rfl; have hcz61_1 := blkc BK477.out 1 (.slice A0_1 l0_1.length c0_1) rfl; have hcz61_2 := blkc BK477.out 2 (.slice A0_2 l0_2.length c0_2) rfl; have hcz61_3 := blkc BK477.out 3 (.slice A2 l2.length c2) rfl; have hfz61_0 := blk_frozen BK477.out 0; have hfz61_1 := blk_frozen BK477.out 1; have hfz61_2 := blk_frozen BK477.out 2; have hfz61_3 := blk_frozen BK477.out 3) | ((with_reducible refine gate_callee (f := 52) rfl ?_); refine goesL_ (some 27) rfl rfl Tryd.func52 (by kernel_rfl) rfl #[.agg #[.int .i64 a0_0, .slice A0_1 l0_1.length c0_1, .slice A0_2 l0_2.length c0_2]] rfl mapz ?_; (with_reducible refine (feed_grid_all.calls a0_0 _ _ l0_1 _ _ l0_2 t480 _ ?side1 ?side2 ?side3 ?side4 A8.out).mono ?_); (case side1 => exact cbz HR0_1); (case side2 => exact HC0_1.out); (case side3 => exact cbz HR0_2); (case side4 => exact HC0_2.out); rintro e w62 ⟨rfl, hb⟩; refine ⟨_, rfl, ?_⟩; have n0_ := Aside0.mk (blk_below (g := gb475) blkz hb); have n1_ := Aside0.mk (blk_below (g := gb476) blkz hb); have n2_ := Aside0.mk (blk_below (g := gb477) blkz hb); have n3_ := Aside0.mk (below_step bel hb); clear BK475; clear BK476; clear BK477; clear HB; have BK475 := n0_; have BK476 := n1_; have BK477 := n2_; have HB := n3_; clear n0_ n1_ n2_ n3_; (try clear hb); (try clear hb2); (try clear hk); (try clear hi)) | ((with_reducible refine gate_callee (f := 53) rfl ?_); refine goesL_ (some 29) rfl rfl Tryd.func53 (by kernel_rfl) rfl #[.int .i64 0, .int .i64 a1, .int .i64 (wrap64 (t480 - 1))] rfl mapz ?_; (with_reducible refine (feed_within.calls 0 a1 (wrap64 (t480 - 1)) false _ A9.out).mono ?_); rintro e w' ⟨rfl, ⟨nd, rfl⟩⟩; refine ⟨_, rfl, ?_⟩; (try (rw [drewN_self w62]; generalize hq_ : World.drewN w62 _ = w62; have n0_ : Aside0 (w62.heap[gb475]? = some (.cells #[.int .i64 a0_0, .slice A0_1 l0_1.length c0_1, .slice A0_2 l0_2.length c0_2] 25 (0, 0))) := ⟨by rw [← hq_]; exact blkz⟩; have n1_ : Aside0 (w62.heap[gb476]? = some (.cells #[.int .i64 0, .slice none 0 0, .slice none 0 0, .slice none 0 0] 96 (0, 0))) := ⟨by rw [← hq_]; exact blkz⟩; have n2_ : Aside0 (w62.heap[gb477]? = some (.cells #[.int .i64 a0_0, .slice A0_1 l0_1.length c0_1, .slice A0_2 l0_2.length c0_2, .slice A2 l2.length c2] 96 (0, 0))) := ⟨by rw [← hq_]; exact blkz⟩; have n3_ : Aside0 (Below w.heap.size w w62) := ⟨by rw [← hq_]; exact bel⟩; clear BK475 BK476 BK477 HB hq_; have BK475 := n0_; have BK476 := n1_; have BK477 := n2_; have HB := n3_; clear n0_ n1_ n2_ n3_)); have hcz63_0 := blkc BK477.out 0 (.int .i64 a0_0) rfl; have hcz63_1 := blkc BK477.out 1 (.slice A0_1 l0_1.length c0_1) rfl; have hcz63_2 := blkc BK477.out 2 (.slice A0_2 l0_2.length c0_2) rfl; have hcz63_3 := blkc BK477.out 3 (.slice A2 l2.length c2) rfl; have hfz63_0 := blk_frozen BK477.out 0; have hfz63_1 := blk_frozen BK477.out 1; have hfz63_2 := blk_frozen BK477.out 2; have hfz63_3 := blk_frozen BK477.out 3; have hcz64_0 := blkc BK476.out 0 (.int .i64 0) rfl; have hcz64_1 := blkc BK476.out 1 (.slice none 0 0) rfl; have hcz64_2 := blkc BK476.out 2 (.slice none 0 0) rfl; have hcz64_3 := blkc BK476.out 3 (.slice none 0 0) rfl; have hfz64_0 := blk_frozen BK476.out 0; have hfz64_1 := blk_frozen BK476.out 1; have hfz64_2 := blk_frozen BK476.out 2; have hfz64_3 := blk_frozen BK476.out 3))
    refine bodyPost_ret (results_ct rfl _ _ gb476 96 #[.int .i64 a0_0, .slice A0_1 l0_1.length c0_1, .slice A0_2 l0_2.length c0_2, .slice A2 l2.length c2] (0, 0) _ rfl (by (with_reducible repeat (first | refine blk_drewN ?_ _ | refine blk_drew ?_ | refine blk_alloc ?_ _)); refine blk_put (cs := #[.int .i64 a0_0, .slice A0_1 l0_1.length c0_1, .slice A0_2 l0_2.length c0_2, .slice none 0 0]) ?_ 3 _ rfl; (with_reducible repeat (first | refine blk_drewN ?_ _ | refine blk_drew ?_ | refine blk_alloc ?_ _)); refine blk_put (cs := #[.int .i64 a0_0, .slice A0_1 l0_1.length c0_1, .slice none 0 0, .slice none 0 0]) ?_ 2 _ rfl; (with_reducible repeat (first | refine blk_drewN ?_ _ | refine blk_drew ?_ | refine blk_alloc ?_ _)); refine blk_put (cs := #[.int .i64 a0_0, .slice none 0 0, .slice none 0 0, .slice none 0 0]) ?_ 1 _ rfl; (with_reducible repeat (first | refine blk_drewN ?_ _ | refine blk_drew ?_ | refine blk_alloc ?_ _)); refine blk_put (cs := #[.int .i64 0, .slice none 0 0, .slice none 0 0, .slice none 0 0]) ?_ 0 _ rfl; (with_reducible repeat (first | refine blk_drewN ?_ _ | refine blk_drew ?_ | refine blk_alloc ?_ _)); exact BK476.out) Tryd.underlying96 rfl (by kernel_rfl)) rfl ?_
    exact ⟨by first | rfl | (simp [errW_none, errW_some] <;> rfl) | (simp [*, errW_none, errW_some] <;> rfl), by repeat (first | (with_reducible first | exact HB.out | apply below_alloc | apply pw_below_drewN | apply below_drew1 | refine below_set ?_ GE475.out | refine below_set ?_ GE476.out | refine below_set ?_ GE477.out) | exact HB.out)⟩
  ·
   rw [if_neg c7] at H
   have c7b0 : (t479 == 0) = false := beq_eq_false_iff_ne.mpr c7
   have c7b1 : (t479 != 0) = true := bne_iff_ne.mpr c7
   simp only [Option.some.injEq, Prod.mk.injEq] at H
   obtain ⟨rfl, rfl⟩ := H
   go_enter Tryd.func69, Tryd.ntmps69
   go_wp2_with (first | ((with_reducible refine gate_dst (N := 3) rfl ?_); refine box_event ?hg (N := 3) ?hd (cs := #[.int .i64 a0_0, .slice A0_1 l0_1.length c0_1, .slice A0_2 l0_2.length c0_2]) (t := 25) ?hr ?_; (case hd => rfl); (case hg => rfl); (case hr => first | (go_simp; done) | (go_simp; rfl)); intro gb475 hg w65 hbox hb; have n0_ := Aside0.mk (below_step bel hb); have n1_ := Aside0.mk (hbox); have n2_ := Aside0.mk ((by rw [hg]; exact (below_size bel) : w.heap.size ≤ gb475)); have n3_ := n2_; clear HB; have HB := n0_; have BK475 := n1_; have GW475 := n2_; have GE475 := n3_; clear n0_ n1_ n2_ n3_; clear hb hbox hg) | ((with_reducible refine gate_dst (N := 6) rfl ?_); refine box_event ?hg (N := 6) ?hd (cs := #[.int .i64 0, .slice none 0 0, .slice none 0 0, .slice none 0 0]) (t := 96) ?hr ?_; (case hd => rfl); (case hg => rfl); (case hr => first | (go_simp; done) | (go_simp; rfl)); intro gb476 hg w66 hbox hb; have n0_ := Aside0.mk (blk_below (g := gb475) blkz hb); have n1_ := Aside0.mk (below_step bel hb); have n2_ := Aside0.mk (hbox); have n3_ := Aside0.mk ((by rw [hg]; exact (below_size bel) : w.heap.size ≤ gb476)); have n4_ := n3_; have n5_ := Aside0.mk ((by rw [hg]; exact Nat.ne_of_lt (blk_lt (g := gb475) (o := .cells #[.int .i64 a0_0, .slice A0_1 l0_1.length c0_1, .slice A0_2 l0_2.length c0_2] 25 (0, 0)) blkz) : gb475 ≠ gb476)); have n6_ := Aside0.mk ((by rw [hg]; exact Nat.ne_of_gt (blk_lt (g := gb475) (o := .cells #[.int .i64 a0_0, .slice A0_1 l0_1.length c0_1, .slice A0_2 l0_2.length c0_2] 25 (0, 0)) blkz) : gb476 ≠ gb475)); clear BK475; clear HB; have BK475 := n0_; have HB := n1_; have BK476 := n2_; have GW476 := n3_; have GE476 := n4_; have NB475_476 := n5_; have NB476_475 := n6_; clear n0_ n1_ n2_ n3_ n4_ n5_ n6_; clear hb hbox hg; have hnb67 := NB475_476.out; have hnc67 := NB476_475.out; have hcz68_0 := blkc BK475.out 0 (.int .i64 a0_0) rfl; have hcz68_1 := blkc BK475.out 1 (.slice A0_1 l0_1.length c0_1) rfl; have hcz68_2 := blkc BK475.out 2 (.slice A0_2 l0_2.length c0_2) rfl; have hfz68_0 := blk_frozen BK475.out 0; have hfz68_1 := blk_frozen BK475.out 1; have hfz68_2 := blk_frozen BK475.out 2) | ((with_reducible refine gate_dst (N := 8) rfl ?_); refine box_event ?hg (N := 8) ?hd (cs := #[.int .i64 0, .slice none 0 0, .slice none 0 0, .slice none 0 0]) (t := 96) ?hr ?_; (case hd => rfl); (case hg => rfl); (case hr => first | (go_simp; done) | (go_simp; rfl)); intro gb477 hg w69 hbox hb; have n0_ := Aside0.mk (blk_below (g := gb475) blkz hb); have n1_ := Aside0.mk (blk_below (g := gb476) blkz hb); have n2_ := Aside0.mk (below_step bel hb); have n3_ := Aside0.mk (hbox); have n4_ := Aside0.mk ((by rw [hg]; exact (below_size bel) : w.heap.size ≤ gb477)); have n5_ := n4_; have n6_ := Aside0.mk ((by rw [hg]; exact Nat.ne_of_lt (blk_lt (g := gb475) (o := .cells #[.int .i64 a0_0, .slice A0_1 l0_1.length c0_1, .slice A0_2 l0_2.length c0_2] 25 (0, 0)) blkz) : gb475 ≠ gb477)); have n7_ := Aside0.mk ((by rw [hg]; exact Nat.ne_of_gt (blk_lt (g := gb475) (o := .cells #[.int .i64 a0_0, .slice A0_1 l0_1.length c0_1, .slice A0_2 l0_2.length c0_2] 25 (0, 0)) blkz) : gb477 ≠ gb475)); have n8_ := Aside0.mk ((by rw [hg]; exact Nat.ne_of_lt (blk_lt (g := gb476) (o := .cells #[.int .i64 0, .slice none 0 0, .slice none 0 0, .slice none 0 0] 96 (0, 0)) blkz) : gb476 ≠ gb477)); have n9_ := Aside0.mk ((by rw [hg]; exact Nat.ne_of_gt (blk_lt (g := gb476) (o := .cells #[.int .i64 0, .slice none 0 0, .slice none 0 0, .slice none 0 0] 96 (0, 0)) blkz) : gb477 ≠ gb476)); clear BK475; clear BK476; clear HB; have BK475 := n0_; have BK476 := n1_; have HB := n2_; have BK477 := n3_; have GW477 := n4_; have GE477 := n5_; have NB475_477 := n6_; have NB477_475 := n7_; have NB476_477 := n8_; have NB477_476 := n9_; clear n0_ n1_ n2_ n3_ n4_ n5_ n6_ n7_ n8_ n9_; clear hb hbox hg; have hnb70 := NB477_475.out; have hnc70 := NB475_477.out; have hnb71 := NB477_476.out; have hnc71 := NB476_477.out; have hcz72_0 := blkc BK477.out 0 (.int .i64 0) rfl; have hcz72_1 := blkc BK477.out 1 (.slice none 0 0) rfl; have hcz72_2 := blkc BK477.out 2 (.slice none 0 0) rfl; have hcz72_3 := blkc BK477.out 3 (.slice none 0 0) rfl; have hfz72_0 := blk_frozen BK477.out 0; have hfz72_1 := blk_frozen BK477.out 1; have hfz72_2 := blk_frozen BK477.out 2; have hfz72_3 := blk_frozen BK477.out 3; have hcz73_0 := blkc BK475.out 0 (.int .i64 a0_0) rfl; have hcz73_1 := blkc BK475.out 1 (.slice A0_1 l0_1.length c0_1) rfl; have hcz73_2 := blkc BK475.out 2 (.slice A0_2 l0_2.length c0_2) rfl; have hfz73_0 := blk_frozen BK475.out 0; have hfz73_1 := blk_frozen BK475.out 1; have hfz73_2 := blk_frozen BK475.out 2) | ((with_reducible refine gate_callee (f := 19) rfl ?_); refine goesL_ (some 15) rfl rfl Tryd.func19 (by kernel_rfl) rfl #[.agg #[.int .i64 a0_0, .slice A0_1 l0_1.length c0_1, .slice A0_2 l0_2.length c0_2]] rfl mapz ?_; (with_reducible refine (feed_Valid.calls a0_0 _ _ l0_1 _ _ l0_2 true _ ?side1 ?side2 ?side3 ?side4 A4.out).mono ?_); (case side1 => exact cbz HR0_1); (case side2 => exact HC0_1.out); (case side3 => exact cbz HR0_2); (case side4 => exact HC0_2.out); rintro e w74 ⟨rfl, hb⟩; refine ⟨_, rfl, ?_⟩; have n0_ := Aside0.mk (blk_below (g := gb475) (o := .cells #[.int .i64 a0_0, .slice A0_1 l0_1.length c0_1, .slice A0_2 l0_2.length c0_2] 25 (0, 0)) (by (with_reducible repeat (first | refine blk_drewN ?_ _ | refine blk_drew ?_ | refine blk_alloc ?_ _)); refine blk_far ?_ NB475_477.out _; (with_reducible repeat (first | refine blk_drewN ?_ _ | refine blk_drew ?_ | refine blk_alloc ?_ _)); refine blk_far ?_ NB475_477.out _; (with_reducible repeat (first | refine blk_drewN ?_ _ | refine blk_drew ?_ | refine blk_alloc ?_ _)); refine blk_far ?_ NB475_477.out _; (with_reducible repeat (first | refine blk_drewN ?_ _ | refine blk_drew ?_ | refine blk_alloc ?_ _)); refine blk_far ?_ NB475_477.out _; (with_reducible repeat (first | refine blk_drewN ?_ _ | refine blk_drew ?_ | refine blk_alloc ?_ _)); exact BK475.out) hb); have n1_ := Aside0.mk (blk_below (g := gb476) (o := .cells #[.int .i64 0, .slice none 0 0, .slice none 0 0, .slice none 0 0] 96 (0, 0)) (by (with_reducible repeat (first | refine blk_drewN ?_ _ | refine blk_drew ?_ | refine blk_alloc ?_ _)); refine blk_far ?_ NB476_477.out _; (with_reducible repeat (first | refine blk_drewN ?_ _ | refine blk_drew ?_ | refine blk_alloc ?_ _)); refine blk_far ?_ NB476_477.out _; (with_reducible repeat (first | refine blk_drewN ?_ _ | refine blk_drew ?_ | refine blk_alloc ?_ _)); refine blk_far ?_ NB476_477.out _; (with_reducible repeat (first | refine blk_drewN ?_ _ | refine blk_drew ?_ | refine blk_alloc ?_ _)); refine blk_far ?_ NB476_477.out _; (with_reducible repeat (first | refine blk_drewN ?_ _ | refine blk_drew ?_ | refine blk_alloc ?_ _)); exact BK476.out) hb); have n2_ := Aside0.mk (blk_below (g := gb477) (o := .cells #[.int .i64 a0_0, .slice A0_1 l0_1.length c0_1, .slice A0_2 l0_2.length c0_2, .slice A2 l2.length c2] 96 (0, 0)) (by (with_reducible repeat (first | refine blk_drewN ?_ _ | refine blk_drew ?_ | refine blk_alloc ?_ _)); refine blk_put (cs := #[.int .i64 a0_0, .slice A0_1 l0_1.length c0_1, .slice A0_2 l0_2.length c0_2, .slice none 0 0]) ?_ 3 _ rfl; (with_reducible repeat (first | refine blk_drewN ?_ _ | refine blk_drew ?_ | refine blk_alloc ?_ _)); refine blk_put (cs := #[.int .i64 a0_0, .slice A0_1 l0_1.length c0_1, .slice none 0 0, .slice none 0 0]) ?_ 2 _ rfl; (with_reducible repeat (first | refine blk_drewN ?_ _ | refine blk_drew ?_ | refine blk_alloc ?_ _)); refine blk_put (cs := #[.int .i64 a0_0, .slice none 0 0, .slice none 0 0, .slice none 0 0]) ?_ 1 _ rfl; (with_reducible repeat (first | refine blk_drewN ?_ _ | refine blk_drew ?_ | refine blk_alloc ?_ _)); refine blk_put (cs := #[.int .i64 0, .slice none 0 0, .slice none 0 0, .slice none 0 0]) ?_ 0 _ rfl; (with_reducible repeat (first | refine blk_drewN ?_ _ | refine blk_drew ?_ | refine blk_alloc ?_ _)); exact BK477.out) hb); have n3_ := Aside0.mk (below_step bel hb); clear BK475; clear BK476; clear BK477; clear HB; have BK475 := n0_; have BK476 := n1_; have BK477 := n2_; have HB := n3_; clear n0_ n1_ n2_ n3_; (try clear hb); (try clear hb2); (try clear hk); (try clear hi); have hcz75_0 := blkc BK477.out 0 (.int .i64 a0_0) rfl; have hcz75_1 := blkc BK477.out 1 (.slice A0_1 l0_1.length c0_1) rfl; have hcz75_2 := blkc BK477.out 2 (.slice A0_2 l0_2.length c0_2) rfl; have hcz75_3 := blkc BK477.out 3 (.slice A2 l2.length c2) rfl; have hfz75_0 := blk_frozen BK477.out 0; have hfz75_1 := blk_frozen BK477.out 1; have hfz75_2 := blk_frozen BK477.out 2; have hfz75_3 := blk_frozen BK477.out 3) | ((with_reducible refine gate_callee (f := 84) rfl ?_); refine goesL_ (some 19) rfl rfl Tryd.func84 (by kernel_rfl) rfl #[.agg #[.int .i64 a0_0, .slice A0_1 l0_1.length c0_1, .slice A0_2 l0_2.length c0_2, .slice A2 l2.length c2]] rfl mapz ?_; (with_reducible refine (feed_rule_kept.calls k a0_0 _ _ l0_1 _ _ l0_2 _ _ l2 t479 _ ?side1 ?side2 ?side3 ?side4 ?side5 ?side6 A6.out).mono ?_); (case side1 => exact cbz HR0_1); (case side2 => exact HC0_1.out); (case side3 => exact cbz HR0_2); (case side4 => exact HC0_2.out); (case side5 => exact cbz HR2); (case side6 => exact HC2.out); rintro e w76 ⟨rfl, hb⟩; refine ⟨_, rfl, ?_⟩; have n0_ := Aside0.mk (blk_below (g := gb475) blkz hb); have n1_ := Aside0.mk (blk_below (g := gb476) blkz hb); have n2_ := Aside0.mk (blk_below (g := gb477) blkz hb); have n3_ := Aside0.mk (below_step bel hb); clear BK475; clear BK476; clear BK477; clear HB; have BK475 := n0_; have BK476 := n1_; have BK477 := n2_; have HB := n3_; clear n0_ n1_ n2_ n3_; (try clear hb); (try clear hb2); (try clear hk); (try clear hi); have hcz77_0 := blkc BK477.out 0 (.int .i64 a0_0) rfl; have hcz77_1 := blkc BK477.out 1 (.slice A0_1 l0_1.length c0_1) rfl; have hcz77_2 := blkc BK477.out 2 (.slice A0_2 l0_2.length c0_2) rfl; have hcz77_3 := blkc BK477.out 3 (.slice A2 l2.length c2) rfl; have hfz77_0 := blk_frozen BK477.out 0; have hfz77_1 := blk_frozen BK477.out 1; have hfz77_2 := blk_frozen BK477.out 2; have hfz77_3 := blk_frozen BK477.out 3; have hcz78_0 := blkc BK476.out 0 (.int .i64 0) rfl; have hcz78_1 := blkc BK476.out 1 (.slice none 0 0) rfl; have hcz78_2 := blkc BK476.out 2 (.slice none 0 0) rfl; have hcz78_3 := blkc BK476.out 3 (.slice none 0 0) rfl; have hfz78_0 := blk_frozen BK476.out 0; have hfz78_1 := blk_frozen BK476.out 1; have hfz78_2 := blk_frozen BK476.out 2; have hfz78_3 := blk_frozen BK476.out 3))
   refine bodyPost_ret (results_ct rfl _ _ gb476 96 #[.int .i64 a0_0, .slice A0_1 l0_1.length c0_1, .slice A0_2 l0_2.length c0_2, .slice A2 l2.length c2] (0, 0) _ rfl (by (with_reducible repeat (first | refine blk_drewN ?_ _ | refine blk_drew ?_ | refine blk_alloc ?_ _)); refine blk_put (cs := #[.int .i64 a0_0, .slice A0_1 l0_1.length c0_1, .slice A0_2 l0_2.length c0_2, .slice none 0 0]) ?_ 3 _ rfl; (with_reducible repeat (first | refine blk_drewN ?_ _ | refine blk_drew ?_ | refine blk_alloc ?_ _)); refine blk_put (cs := #[.int .i64 a0_0, .slice A0_1 l0_1.length c0_1, .slice none 0 0, .slice none 0 0]) ?_ 2 _ rfl; (with_reducible repeat (first | refine blk_drewN ?_ _ | refine blk_drew ?_ | refine blk_alloc ?_ _)); refine blk_put (cs := #[.int .i64 a0_0, .slice none 0 0, .slice none 0 0, .slice none 0 0]) ?_ 1 _ rfl; (with_reducible repeat (first | refine blk_drewN ?_ _ | refine blk_drew ?_ | refine blk_alloc ?_ _)); refine blk_put (cs := #[.int .i64 0, .slice none 0 0, .slice none 0 0, .slice none 0 0]) ?_ 0 _ rfl; (with_reducible repeat (first | refine blk_drewN ?_ _ | refine blk_drew ?_ | refine blk_alloc ?_ _)); exact BK476.out) Tryd.underlying96 rfl (by kernel_rfl)) rfl ?_
   exact ⟨by first | rfl | (simp [errW_none, errW_some] <;> rfl) | (simp [*, errW_none, errW_some] <;> rfl), by repeat (first | (with_reducible first | exact HB.out | apply below_alloc | apply pw_below_drewN | apply below_drew1 | refine below_set ?_ GE475.out | refine below_set ?_ GE476.out | refine below_set ?_ GE477.out) | exact HB.out)⟩
 ·
  replace c5 := Bool.eq_false_iff.mpr c5
  subst c5
  have H1 : (some (a0_0, 50)) = some (r1, r2) := by rw [if_neg (show ¬ (false = true) by decide)] at H; exact H
  clear H
  have H := H1
  clear H1
  simp only [Option.some.injEq, Prod.mk.injEq] at H
  obtain ⟨rfl, rfl⟩ := H
  go_enter Tryd.func69, Tryd.ntmps69
  go_wp2_with (first | ((with_reducible refine gate_dst (N := 3) rfl ?_); refine box_event ?hg (N := 3) ?hd (cs := #[.int .i64 a0_0, .slice A0_1 l0_1.length c0_1, .slice A0_2 l0_2.length c0_2]) (t := 25) ?hr ?_; (case hd => rfl); (case hg => rfl); (case hr => first | (go_simp; done) | (go_simp; rfl)); intro gb475 hg w79 hbox hb; have n0_ := Aside0.mk (below_step bel hb); have n1_ := Aside0.mk (hbox); have n2_ := Aside0.mk ((by rw [hg]; exact (below_size bel) : w.heap.size ≤ gb475)); have n3_ := n2_; clear HB; have HB := n0_; have BK475 := n1_; have GW475 := n2_; have GE475 := n3_; clear n0_ n1_ n2_ n3_; clear hb hbox hg) | ((with_reducible refine gate_dst (N := 6) rfl ?_); refine box_event ?hg (N := 6) ?hd (cs := #[.int .i64 0, .slice none 0 0, .slice none 0 0, .slice none 0 0]) (t := 96) ?hr ?_; (case hd => rfl); (case hg => rfl); (case hr => first | (go_simp; done) | (go_simp; rfl)); intro gb476 hg w80 hbox hb; have n0_ := Aside0.mk (blk_below (g := gb475) blkz hb); have n1_ := Aside0.mk (below_step bel hb); have n2_ := Aside0.mk (hbox); have n3_ := Aside0.mk ((by rw [hg]; exact (below_size bel) : w.heap.size ≤ gb476)); have n4_ := n3_; have n5_ := Aside0.mk ((by rw [hg]; exact Nat.ne_of_lt (blk_lt (g := gb475) (o := .cells #[.int .i64 a0_0, .slice A0_1 l0_1.length c0_1, .slice A0_2 l0_2.length c0_2] 25 (0, 0)) blkz) : gb475 ≠ gb476)); have n6_ := Aside0.mk ((by rw [hg]; exact Nat.ne_of_gt (blk_lt (g := gb475) (o := .cells #[.int .i64 a0_0, .slice A0_1 l0_1.length c0_1, .slice A0_2 l0_2.length c0_2] 25 (0, 0)) blkz) : gb476 ≠ gb475)); clear BK475; clear HB; have BK475 := n0_; have HB := n1_; have BK476 := n2_; have GW476 := n3_; have GE476 := n4_; have NB475_476 := n5_; have NB476_475 := n6_; clear n0_ n1_ n2_ n3_ n4_ n5_ n6_; clear hb hbox hg; have hnb81 := NB475_476.out; have hnc81 := NB476_475.out; have hcz82_0 := blkc BK475.out 0 (.int .i64 a0_0) rfl; have hcz82_1 := blkc BK475.out 1 (.slice A0_1 l0_1.length c0_1) rfl; have hcz82_2 := blkc BK475.out 2 (.slice A0_2 l0_2.length c0_2) rfl; have hfz82_0 := blk_frozen BK475.out 0; have hfz82_1 := blk_frozen BK475.out 1; have hfz82_2 := blk_frozen BK475.out 2) | ((with_reducible refine gate_dst (N := 8) rfl ?_); refine box_event ?hg (N := 8) ?hd (cs := #[.int .i64 0, .slice none 0 0, .slice none 0 0, .slice none 0 0]) (t := 96) ?hr ?_; (case hd => rfl); (case hg => rfl); (case hr => first | (go_simp; done) | (go_simp; rfl)); intro gb477 hg w83 hbox hb; have n0_ := Aside0.mk (blk_below (g := gb475) blkz hb); have n1_ := Aside0.mk (blk_below (g := gb476) blkz hb); have n2_ := Aside0.mk (below_step bel hb); have n3_ := Aside0.mk (hbox); have n4_ := Aside0.mk ((by rw [hg]; exact (below_size bel) : w.heap.size ≤ gb477)); have n5_ := n4_; have n6_ := Aside0.mk ((by rw [hg]; exact Nat.ne_of_lt (blk_lt (g := gb475) (o := .cells #[.int .i64 a0_0, .slice A0_1 l0_1.length c0_1, .slice A0_2 l0_2.length c0_2] 25 (0, 0)) blkz) : gb475 ≠ gb477)); have n7_ := Aside0.mk ((by rw [hg]; exact Nat.ne_of_gt (blk_lt (g := gb475) (o := .cells #[.int .i64 a0_0, .slice A0_1 l0_1.length c0_1, .slice A0_2 l0_2.length c0_2] 25 (0, 0)) blkz) : gb477 ≠ gb475)); have n8_ := Aside0.mk ((by rw [hg]; exact Nat.ne_of_lt (blk_lt (g := gb476) (o := .cells #[.int .i64 0, .slice none 0 0, .slice none 0 0, .slice none 0 0] 96 (0, 0)) blkz) : gb476 ≠ gb477)); have n9_ := Aside0.mk ((by rw [hg]; exact Nat.ne_of_gt (blk_lt (g := gb476) (o := .cells #[.int .i64 0, .slice none 0 0, .slice none 0 0, .slice none 0 0] 96 (0, 0)) blkz) : gb477 ≠ gb476)); clear BK475; clear BK476; clear HB; have BK475 := n0_; have BK476 := n1_; have HB := n2_; have BK477 := n3_; have GW477 := n4_; have GE477 := n5_; have NB475_477 := n6_; have NB477_475 := n7_; have NB476_477 := n8_; have NB477_476 := n9_; clear n0_ n1_ n2_ n3_ n4_ n5_ n6_ n7_ n8_ n9_; clear hb hbox hg; have hnb84 := NB477_475.out; have hnc84 := NB475_477.out; have hnb85 := NB477_476.out; have hnc85 := NB476_477.out; have hcz86_0 := blkc BK477.out 0 (.int .i64 0) rfl; have hcz86_1 := blkc BK477.out 1 (.slice none 0 0) rfl; have hcz86_2 := blkc BK477.out 2 (.slice none 0 0) rfl; have hcz86_3 := blkc BK477.out 3 (.slice none 0 0) rfl; have hfz86_0 := blk_frozen BK477.out 0; have hfz86_1 := blk_frozen BK477.out 1; have hfz86_2 := blk_frozen BK477.out 2; have hfz86_3 := blk_frozen BK477.out 3; have hcz87_0 := blkc BK475.out 0 (.int .i64 a0_0) rfl; have hcz87_1 := blkc BK475.out 1 (.slice A0_1 l0_1.length c0_1) rfl; have hcz87_2 := blkc BK475.out 2 (.slice A0_2 l0_2.length c0_2) rfl; have hfz87_0 := blk_frozen BK475.out 0; have hfz87_1 := blk_frozen BK475.out 1; have hfz87_2 := blk_frozen BK475.out 2) | ((with_reducible refine gate_callee (f := 19) rfl ?_); refine goesL_ (some 15) rfl rfl Tryd.func19 (by kernel_rfl) rfl #[.agg #[.int .i64 a0_0, .slice A0_1 l0_1.length c0_1, .slice A0_2 l0_2.length c0_2]] rfl mapz ?_; (with_reducible refine (feed_Valid.calls a0_0 _ _ l0_1 _ _ l0_2 false _ ?side1 ?side2 ?side3 ?side4 A4.out).mono ?_); (case side1 => exact cbz HR0_1); (case side2 => exact HC0_1.out); (case side3 => exact cbz HR0_2); (case side4 => exact HC0_2.out); rintro e w88 ⟨rfl, hb⟩; refine ⟨_, rfl, ?_⟩; have n0_ := Aside0.mk (blk_below (g := gb475) (o := .cells #[.int .i64 a0_0, .slice A0_1 l0_1.length c0_1, .slice A0_2 l0_2.length c0_2] 25 (0, 0)) (by (with_reducible repeat (first | refine blk_drewN ?_ _ | refine blk_drew ?_ | refine blk_alloc ?_ _)); refine blk_far ?_ NB475_477.out _; (with_reducible repeat (first | refine blk_drewN ?_ _ | refine blk_drew ?_ | refine blk_alloc ?_ _)); refine blk_far ?_ NB475_477.out _; (with_reducible repeat (first | refine blk_drewN ?_ _ | refine blk_drew ?_ | refine blk_alloc ?_ _)); refine blk_far ?_ NB475_477.out _; (with_reducible repeat (first | refine blk_drewN ?_ _ | refine blk_drew ?_ | refine blk_alloc ?_ _)); refine blk_far ?_ NB475_477.out _; (with_reducible repeat (first | refine blk_drewN ?_ _ | refine blk_drew ?_ | refine blk_alloc ?_ _)); exact BK475.out) hb); have n1_ := Aside0.mk (blk_below (g := gb476) (o := .cells #[.int .i64 0, .slice none 0 0, .slice none 0 0, .slice none 0 0] 96 (0, 0)) (by (with_reducible repeat (first | refine blk_drewN ?_ _ | refine blk_drew ?_ | refine blk_alloc ?_ _)); refine blk_far ?_ NB476_477.out _; (with_reducible repeat (first | refine blk_drewN ?_ _ | refine blk_drew ?_ | refine blk_alloc ?_ _)); refine blk_far ?_ NB476_477.out _; (with_reducible repeat (first | refine blk_drewN ?_ _ | refine blk_drew ?_ | refine blk_alloc ?_ _)); refine blk_far ?_ NB476_477.out _; (with_reducible repeat (first | refine blk_drewN ?_ _ | refine blk_drew ?_ | refine blk_alloc ?_ _)); refine blk_far ?_ NB476_477.out _; (with_reducible repeat (first | refine blk_drewN ?_ _ | refine blk_drew ?_ | refine blk_alloc ?_ _)); exact BK476.out) hb); have n2_ := Aside0.mk (blk_below (g := gb477) (o := .cells #[.int .i64 a0_0, .slice A0_1 l0_1.length c0_1, .slice A0_2 l0_2.length c0_2, .slice A2 l2.length c2] 96 (0, 0)) (by (with_reducible repeat (first | refine blk_drewN ?_ _ | refine blk_drew ?_ | refine blk_alloc ?_ _)); refine blk_put (cs := #[.int .i64 a0_0, .slice A0_1 l0_1.length c0_1, .slice A0_2 l0_2.length c0_2, .slice none 0 0]) ?_ 3 _ rfl; (with_reducible repeat (first | refine blk_drewN ?_ _ | refine blk_drew ?_ | refine blk_alloc ?_ _)); refine blk_put (cs := #[.int .i64 a0_0, .slice A0_1 l0_1.length c0_1, .slice none 0 0, .slice none 0 0]) ?_ 2 _ rfl; (with_reducible repeat (first | refine blk_drewN ?_ _ | refine blk_drew ?_ | refine blk_alloc ?_ _)); refine blk_put (cs := #[.int .i64 a0_0, .slice none 0 0, .slice none 0 0, .slice none 0 0]) ?_ 1 _ rfl; (with_reducible repeat (first | refine blk_drewN ?_ _ | refine blk_drew ?_ | refine blk_alloc ?_ _)); refine blk_put (cs := #[.int .i64 0, .slice none 0 0, .slice none 0 0, .slice none 0 0]) ?_ 0 _ rfl; (with_reducible repeat (first | refine blk_drewN ?_ _ | refine blk_drew ?_ | refine blk_alloc ?_ _)); exact BK477.out) hb); have n3_ := Aside0.mk (below_step bel hb); clear BK475; clear BK476; clear BK477; clear HB; have BK475 := n0_; have BK476 := n1_; have BK477 := n2_; have HB := n3_; clear n0_ n1_ n2_ n3_; (try clear hb); (try clear hb2); (try clear hk); (try clear hi); have hcz89_0 := blkc BK477.out 0 (.int .i64 a0_0) rfl; have hcz89_1 := blkc BK477.out 1 (.slice A0_1 l0_1.length c0_1) rfl; have hcz89_2 := blkc BK477.out 2 (.slice A0_2 l0_2.length c0_2) rfl; have hcz89_3 := blkc BK477.out 3 (.slice A2 l2.length c2) rfl; have hfz89_0 := blk_frozen BK477.out 0; have hfz89_1 := blk_frozen BK477.out 1; have hfz89_2 := blk_frozen BK477.out 2; have hfz89_3 := blk_frozen BK477.out 3; have hcz90_0 := blkc BK476.out 0 (.int .i64 0) rfl; have hcz90_1 := blkc BK476.out 1 (.slice none 0 0) rfl; have hcz90_2 := blkc BK476.out 2 (.slice none 0 0) rfl; have hcz90_3 := blkc BK476.out 3 (.slice none 0 0) rfl; have hfz90_0 := blk_frozen BK476.out 0; have hfz90_1 := blk_frozen BK476.out 1; have hfz90_2 := blk_frozen BK476.out 2; have hfz90_3 := blk_frozen BK476.out 3))
  refine bodyPost_ret (results_ct rfl _ _ gb476 96 #[.int .i64 a0_0, .slice A0_1 l0_1.length c0_1, .slice A0_2 l0_2.length c0_2, .slice A2 l2.length c2] (0, 0) _ rfl (by (with_reducible repeat (first | refine blk_drewN ?_ _ | refine blk_drew ?_ | refine blk_alloc ?_ _)); refine blk_put (cs := #[.int .i64 a0_0, .slice A0_1 l0_1.length c0_1, .slice A0_2 l0_2.length c0_2, .slice none 0 0]) ?_ 3 _ rfl; (with_reducible repeat (first | refine blk_drewN ?_ _ | refine blk_drew ?_ | refine blk_alloc ?_ _)); refine blk_put (cs := #[.int .i64 a0_0, .slice A0_1 l0_1.length c0_1, .slice none 0 0, .slice none 0 0]) ?_ 2 _ rfl; (with_reducible repeat (first | refine blk_drewN ?_ _ | refine blk_drew ?_ | refine blk_alloc ?_ _)); refine blk_put (cs := #[.int .i64 a0_0, .slice none 0 0, .slice none 0 0, .slice none 0 0]) ?_ 1 _ rfl; (with_reducible repeat (first | refine blk_drewN ?_ _ | refine blk_drew ?_ | refine blk_alloc ?_ _)); refine blk_put (cs := #[.int .i64 0, .slice none 0 0, .slice none 0 0, .slice none 0 0]) ?_ 0 _ rfl; (with_reducible repeat (first | refine blk_drewN ?_ _ | refine blk_drew ?_ | refine blk_alloc ?_ _)); exact BK476.out) Tryd.underlying96 rfl (by kernel_rfl)) rfl ?_
  exact ⟨by first | rfl | (simp [errW_none, errW_some] <;> rfl) | (simp [*, errW_none, errW_some] <;> rfl), by repeat (first | (with_reducible first | exact HB.out | apply below_alloc | apply pw_below_drewN | apply below_drew1 | refine below_set ?_ GE475.out | refine below_set ?_ GE476.out | refine below_set ?_ GE477.out) | exact HB.out)⟩

end Go.Proofs.YtoilhnmdemnknaaDoor.XFeed

-- Written by wip/xprint.py of this repo, over the kit's print.py: out of the translation; the oracles in it are by hand. Not trusted: Lean checks it.
namespace Go.Proofs.YtoilhnmdemnknaaDoor.XFeed
open Go.RowKit Go.Proofs.YtoilhnmdemnknaaDoorW.PrintWords Go.Proofs.YtoilhnmdemnknaaDoorW.PrintLast Go.Proofs.YtoilhnmdemnknaaDoorW.PrintMore
attribute [local go_sem] max2_int min2_int max_two min_two max_three min_three max_four min_four   -- for this text's walks alone
set_option linter.unusedVariables false
set_option linter.unusedSimpArgs false

/-! ### feed_grid_switches: function 70 -/
theorem feed_grid_switches.within_calls (a b c : Int) (w : World) :
  Calls Tryd.prog 53 #[.int .i64 a, .int .i64 b, .int .i64 c] w fun e w' => e = .returned (.bool (decide (a ≤ b) && decide (b ≤ c))) ∧ Drawn0 w w' := by
 by_cases h1 : a ≤ b
 ·
  have h1' : decide (a ≤ b) = true := decide_eq_true h1
  go_enter Tryd.func53, Tryd.ntmps53
  go_wp2
  go_ret
  exact ⟨by simp [h1], Drawn0.refl _⟩
 ·
  have h1' : decide (a ≤ b) = false := decide_eq_false h1
  go_enter Tryd.func53, Tryd.ntmps53
  go_wp2
  go_ret
  exact ⟨by simp [h1], Drawn0.refl _⟩
def feed_grid_switches.bad (n : Int) (x : Int) : Bool := !(decide (0 ≤ x) && decide (x ≤ wrap64 (n - 1)))
set_option maxHeartbeats 2000000 in
set_option maxRecDepth 100000 in
theorem feed_grid_switches.clos (n : Int) (g : Nat) (A : Option Addr) (len c : Nat) (x : Int) (w : World) (hn : n = (len : Int)) (hcap : w.cell? ⟨g, 1, none⟩ = some (.slice A len c)) :
  Calls Tryd.prog 96 #[.int .i64 x, .pointer (some ⟨g, 0, none⟩)] w fun e w' => e = .returned (.bool (feed_grid_switches.bad n x)) ∧ Below w.heap.size w w' := by
 subst hn
 have hu0 := Tryd.underlying73
 have hu1 := Tryd.underlying25
 by_cases h0 : (decide (0 ≤ x) && decide (x ≤ wrap64 ((len : Int) - 1))) = true
 ·
  skip
  have hE : Aside0 ((feed_grid_switches.bad (len : Int) x) = false) := ⟨by simp only [feed_grid_switches.bad, h0, Bool.not_true, Bool.false_or]⟩
  have H0 := Aside0.mk h0
  clear h0
  go_enter Tryd.func96, Tryd.ntmps96
  go_wp2_with (first | (go_at_call 53; (with_reducible refine (feed_grid_switches.within_calls 0 x (wrap64 ((len : Int) - 1)) _).mono ?_); rintro e w' ⟨rfl, ⟨nd_, rfl⟩⟩; rw [H0.out]))
  go_ret
  exact ⟨by rw [hE.out]; rfl, by repeat (first | exact Below.refl _ _ | apply pw_below_drewN)⟩
 ·
  replace h0 := Bool.eq_false_iff.mpr h0
  have hE : Aside0 ((feed_grid_switches.bad (len : Int) x) = true) := ⟨by simp only [feed_grid_switches.bad, h0, Bool.not_true, Bool.not_false, Bool.false_or, Bool.true_or]⟩
  have H0 := Aside0.mk h0
  clear h0
  go_enter Tryd.func96, Tryd.ntmps96
  go_wp2_with (first | (go_at_call 53; (with_reducible refine (feed_grid_switches.within_calls 0 x (wrap64 ((len : Int) - 1)) _).mono ?_); rintro e w' ⟨rfl, ⟨nd_, rfl⟩⟩; rw [H0.out]))
  go_ret
  exact ⟨by rw [hE.out]; rfl, by repeat (first | exact Below.refl _ _ | apply pw_below_drewN)⟩
theorem feed_grid_switches.enter (vs : Array Value) (W : World) : (callFunc 96 vs).run Tryd.prog W = .ok (.enter 96 vs) W := enters_ Tryd.func96 (by kernel_rfl) (by kernel_rfl) vs W
def feed_grid_switches.f (a0_0 : Int) (l0_1 : List S69) (l0_2 : List S71) (l1 : List Int) : Option Bool := some (decide ((l1.length : Int) ≤ 1000) && !(l1.any (feed_grid_switches.bad (l0_1.length : Int))))
set_option maxHeartbeats 4000000 in
set_option maxRecDepth 100000 in
theorem feed_grid_switches.calls (a0_0 : Int) (A0_1 : Option Addr) (c0_1 : Nat) (l0_1 : List S69) (A0_2 : Option Addr) (c0_2 : Nat) (l0_2 : List S71) (A1 : Option Addr) (c1 : Nat) (l1 : List Int) (r : Bool) (w : World) (hr0_1 : Kd.C k69 w A0_1 l0_1.length l0_1) (hc0_1 : l0_1.length ≤ c0_1) (hr0_2 : Kd.C k71 w A0_2 l0_2.length l0_2) (hc0_2 : l0_2.length ≤ c0_2) (hr1 : Kd.C (Kd.int .i64) w A1 l1.length l1) (hc1 : l1.length ≤ c1) (h : feed_grid_switches.f a0_0 l0_1 l0_2 l1 = some r) :
  Calls Tryd.prog 70 #[.agg #[.int .i64 a0_0, .slice A0_1 l0_1.length c0_1, .slice A0_2 l0_2.length c0_2], .slice A1 l1.length c1] w fun e w' => e = .returned (.bool r) ∧ Below w.heap.size w w' := by
 have hu := Tryd.underlying25
 have hu2 := Tryd.underlying73
 have hl1 : l1.length ≤ 9223372036854775807 := hr1.2.1
 have HR1 := Aside0.mk hr0_1
 have HR2 := Aside0.mk hr0_2
 clear hr0_1 hr0_2
 have HR := Aside0.mk hr1
 clear hr1
 have hB0 : Aside0 (Below w.heap.size w (w.alloc (.cells #[.int .i64 a0_0, .slice A0_1 l0_1.length c0_1, .slice A0_2 l0_2.length c0_2] 73))) := ⟨below_alloc (Below.refl _ _) _⟩
 have hB1 : Aside0 (Below (w.alloc (.cells #[.int .i64 a0_0, .slice A0_1 l0_1.length c0_1, .slice A0_2 l0_2.length c0_2] 73)).heap.size (w.alloc (.cells #[.int .i64 a0_0, .slice A0_1 l0_1.length c0_1, .slice A0_2 l0_2.length c0_2] 73)) (w.alloc (.cells #[.int .i64 a0_0, .slice A0_1 l0_1.length c0_1, .slice A0_2 l0_2.length c0_2] 73))) := ⟨Below.refl _ _⟩
 have hcell : Aside0 (∀ W, Below (w.alloc (.cells #[.int .i64 a0_0, .slice A0_1 l0_1.length c0_1, .slice A0_2 l0_2.length c0_2] 73)).heap.size (w.alloc (.cells #[.int .i64 a0_0, .slice A0_1 l0_1.length c0_1, .slice A0_2 l0_2.length c0_2] 73)) W → ∀ j, W.cell? ⟨w.heap.size, j, none⟩ = (#[.int .i64 a0_0, .slice A0_1 l0_1.length c0_1, .slice A0_2 l0_2.length c0_2] : Array Value)[j]?) := ⟨fun W hb j => by
  rw [hb.cell (by show w.heap.size < (w.heap.push _).size; rw [Array.size_push]; omega), World.cell?_alloc_at _ _ _ _ rfl]⟩
 obtain rfl := Option.some.inj h
 clear h
 by_cases h2 : (l1.length : Int) ≤ 1000
 ·
  rw [decide_eq_true h2, Bool.true_and]
  have k2 : decide ((l1.length : Int) ≤ 1000) = true := decide_eq_true h2
  clear h2
  by_cases h3 : l1.any (feed_grid_switches.bad (l0_1.length : Int)) = true
  ·
   rw [h3]
   have H3 := Aside0.mk h3
   clear h3
   go_enter Tryd.func70, Tryd.ntmps70
   go_wp2_with (go_at_call 86; (refine (slices_ContainsFunc_int_int.contains 96 #[.pointer (some ⟨w.heap.size, 0, none⟩)] (feed_grid_switches.bad (l0_1.length : Int)) A1 c1 l1 _ (Kd.C_below HR.out hB0.out) hc1 feed_grid_switches.enter (fun x _ W hb => feed_grid_switches.clos _ w.heap.size A0_1 l0_1.length c0_1 x W rfl (hcell.out W (below_step hB1.out hb) 1))).mono ?_); rintro e w' ⟨rfl, hb⟩; have HB := Aside0.mk (below_step hB0.out hb); clear hb; rw [H3.out])
   go_ret
   exact ⟨rfl, HB.out⟩
  ·
   replace h3 := Bool.eq_false_iff.mpr h3
   rw [h3]
   have H3 := Aside0.mk h3
   clear h3
   go_enter Tryd.func70, Tryd.ntmps70
   go_wp2_with (go_at_call 86; (refine (slices_ContainsFunc_int_int.contains 96 #[.pointer (some ⟨w.heap.size, 0, none⟩)] (feed_grid_switches.bad (l0_1.length : Int)) A1 c1 l1 _ (Kd.C_below HR.out hB0.out) hc1 feed_grid_switches.enter (fun x _ W hb => feed_grid_switches.clos _ w.heap.size A0_1 l0_1.length c0_1 x W rfl (hcell.out W (below_step hB1.out hb) 1))).mono ?_); rintro e w' ⟨rfl, hb⟩; have HB := Aside0.mk (below_step hB0.out hb); clear hb; rw [H3.out])
   go_ret
   exact ⟨rfl, HB.out⟩
 ·
  rw [decide_eq_false h2, Bool.false_and]
  have k2 : decide ((l1.length : Int) ≤ 1000) = false := decide_eq_false h2
  clear h2
  go_enter Tryd.func70, Tryd.ntmps70
  go_wp2
  go_ret
  exact ⟨rfl, hB0.out⟩

end Go.Proofs.YtoilhnmdemnknaaDoor.XFeed

-- Written by wip/xprint.py of this repo, over the kit's print.py: out of the translation; the oracles in it are by hand. Not trusted: Lean checks it.
namespace Go.Proofs.YtoilhnmdemnknaaDoor.XFeed
open Go.RowKit Go.Proofs.YtoilhnmdemnknaaDoorW.PrintWords Go.Proofs.YtoilhnmdemnknaaDoorW.PrintLast Go.Proofs.YtoilhnmdemnknaaDoorW.PrintMore
attribute [local go_sem] max2_int min2_int max_two min_two max_three min_three max_four min_four   -- for this text's walks alone
set_option linter.unusedVariables false
set_option linter.unusedSimpArgs false

/-! ### feed_rule_steps: function 71 -/
def feed_rule_steps.l0 : Nat → Int → List Int → Int → Int → Int → List (S69) → List (S71) → List Int → Option (List Int)
 | 0, _, _, _, _, _, _, _, _ => none
 | k + 1, x1, x5, x12, x13, x484000, x484001, x484002, x484003 => if x13 < x12 then (if 0 ≤ x13 then ((feed_rule_keeps.f k x484000 x484001 x484002 x484003 (Go.bits .xor .i64 x1 (shl .i64 1 x13))).bind fun t484 => (if t484 = true then (if x5.length < 17592186044416 then (feed_rule_steps.l0 k x1 (x5 ++ [Go.bits .xor .i64 x1 (shl .i64 1 x13)]) x12 (wrap64 (x13 + 1)) x484000 x484001 x484002 x484003) else (none)) else (if x5.length < 17592186044416 then (feed_rule_steps.l0 k x1 (x5 ++ [(-1)]) x12 (wrap64 (x13 + 1)) x484000 x484001 x484002 x484003) else (none)))) else (none)) else (some x5)
def feed_rule_steps.f (k : Nat) (a0_0 : Int) (l0_1 : List (S69)) (l0_2 : List (S71)) (l0_3 : List Int) (a1 : Int) : Option (List Int) := feed_rule_steps.l0 k a1 ([] : List Int) (l0_1.length : Int) 0 a0_0 l0_1 l0_2 l0_3
theorem feed_rule_steps.mono_l : ∀ k, (∀ y0 y1 y2 y3 y4 y5 y6 y7, LeO (feed_rule_steps.l0 k y0 y1 y2 y3 y4 y5 y6 y7) (feed_rule_steps.l0 (k + 1) y0 y1 y2 y3 y4 y5 y6 y7))
 | 0 => fun _ _ _ _ _ _ _ _ r h => by simp [feed_rule_steps.l0] at h
 | k + 1 => by
  have ih0 := feed_rule_steps.mono_l k
  ·
   intro y0 y1 y2 y3 y4 y5 y6 y7
   unfold feed_rule_steps.l0
   repeat' first
   | (with_reducible exact ih0 _ _ _ _ _ _ _ _)
   | (with_reducible exact feed_rule_keeps.mono _ _ _ _ _ _)
   | (with_reducible exact LeO.refl _)
   | (with_reducible exact LeO.none _)
   | (with_reducible refine LeO.ite ?_ ?_)
   | (with_reducible refine LeO.bind ?_ (fun _ => ?_))
   | exact ih0 _ _ _ _ _ _ _ _
   | exact feed_rule_keeps.mono _ _ _ _ _ _
   | exact LeO.none _
   | refine LeO.ite ?_ ?_
   | refine LeO.bind ?_ (fun _ => ?_)
theorem feed_rule_steps.mono : ∀ a0 a1 a2 a3 a4 k, LeO (feed_rule_steps.f k a0 a1 a2 a3 a4) (feed_rule_steps.f (k + 1) a0 a1 a2 a3 a4) := by
 intro a0 a1 a2 a3 a4 k
 have ih0 := feed_rule_steps.mono_l k
 unfold feed_rule_steps.f
 repeat' first
   | (with_reducible exact ih0 _ _ _ _ _ _ _ _)
   | (with_reducible exact feed_rule_keeps.mono _ _ _ _ _ _)
   | (with_reducible exact LeO.refl _)
   | (with_reducible exact LeO.none _)
   | (with_reducible refine LeO.ite ?_ ?_)
   | (with_reducible refine LeO.bind ?_ (fun _ => ?_))
   | exact ih0 _ _ _ _ _ _ _ _
   | exact feed_rule_keeps.mono _ _ _ _ _ _
   | exact LeO.none _
   | refine LeO.ite ?_ ?_
   | refine LeO.bind ?_ (fun _ => ?_)
set_option maxHeartbeats 8000000 in
set_option maxRecDepth 100000 in
theorem feed_rule_steps.calls (k : Nat) (a0_0 : Int) (A0_1 : Option Addr) (c0_1 : Nat) (l0_1 : List (S69)) (A0_2 : Option Addr) (c0_2 : Nat) (l0_2 : List (S71)) (A0_3 : Option Addr) (c0_3 : Nat) (l0_3 : List Int) (a1 : Int) (r : List Int) (w : World) (hr0_1 : Kd.C k69 w A0_1 l0_1.length l0_1) (hc0_1 : l0_1.length ≤ c0_1) (hr0_2 : Kd.C k71 w A0_2 l0_2.length l0_2) (hc0_2 : l0_2.length ≤ c0_2) (hr0_3 : Kd.C (Kd.int .i64) w A0_3 l0_3.length l0_3) (hc0_3 : l0_3.length ≤ c0_3) (hT : Tab.Tabs w) (h : feed_rule_steps.f k a0_0 l0_1 l0_2 l0_3 a1 = some r) :
  Calls Tryd.prog 71 #[.agg #[.int .i64 a0_0, .slice A0_1 l0_1.length c0_1, .slice A0_2 l0_2.length c0_2, .slice A0_3 l0_3.length c0_3], .int .i64 a1] w fun e w' => ∃ v0_ : Value, e = .returned (v0_) ∧ Kd.R (Kd.int .i64) 3 w' w.heap.size (fun _ => True) v0_ r ∧ Below w.heap.size w w' := by
 have HT := Aside0.mk hT
 clear hT
 have hu96 := Tryd.underlying96
 have HR0_1 := Aside0.mk hr0_1
 have HC0_1 := Aside0.mk hc0_1
 clear hr0_1 hc0_1
 have HR0_2 := Aside0.mk hr0_2
 have HC0_2 := Aside0.mk hc0_2
 clear hr0_2 hc0_2
 have HR0_3 := Aside0.mk hr0_3
 have HC0_3 := Aside0.mk hc0_3
 clear hr0_3 hc0_3
 have HB := Aside0.mk (Below.refl w.heap.size w)
 have H : (feed_rule_steps.l0 k a1 ([] : List Int) (l0_1.length : Int) 0 a0_0 l0_1 l0_2 l0_3) = some r := h
 clear h
 have H' := Aside0.mk H
 clear H
 go_enter Tryd.func71, Tryd.ntmps71
 go_wp2_with (first | ((with_reducible refine gate_dst (N := 2) rfl ?_); refine box_event ?hg (N := 2) ?hd (cs := #[.int .i64 a0_0, .slice A0_1 l0_1.length c0_1, .slice A0_2 l0_2.length c0_2, .slice A0_3 l0_3.length c0_3]) (t := 96) ?hr ?_; (case hd => rfl); (case hg => rfl); (case hr => first | (go_simp; done) | (go_simp; rfl)); intro gb483 hg w3 hbox hb; have n0_ := Aside0.mk (below_step bel hb); have n1_ := Aside0.mk (hbox); have n2_ := Aside0.mk ((by rw [hg]; exact (below_size bel) : w.heap.size ≤ gb483)); have n3_ := n2_; clear HB; have HB := n0_; have BK483 := n1_; have GW483 := n2_; have GE483 := n3_; clear n0_ n1_ n2_ n3_; clear hb hbox hg; have hcz4_0 := blkc BK483.out 0 (.int .i64 a0_0) rfl; have hcz4_1 := blkc BK483.out 1 (.slice A0_1 l0_1.length c0_1) rfl; have hcz4_2 := blkc BK483.out 2 (.slice A0_2 l0_2.length c0_2) rfl; have hcz4_3 := blkc BK483.out 3 (.slice A0_3 l0_3.length c0_3) rfl; have hfz4_0 := blk_frozen BK483.out 0; have hfz4_1 := blk_frozen BK483.out 1; have hfz4_2 := blk_frozen BK483.out 2; have hfz4_3 := blk_frozen BK483.out 3))
 go_loopg [5, 13] k (fun kq v5 v13 w' => ∃ (x5_1 : List Int) (x13_1 : Int), v13 = .int .i64 x13_1 ∧ Aside0 (feed_rule_steps.l0 kq a1 x5_1 (l0_1.length : Int) x13_1 a0_0 l0_1 l0_2 l0_3 = some r) ∧ Aside0 (kq ≤ k) ∧ Aside0 (Kd.R (Kd.int .i64) 3 w' w.heap.size (fun _ => True) v5 x5_1) ∧ Aside0 (w'.heap[gb483]? = some (.cells #[.int .i64 a0_0, (.slice A0_1 l0_1.length c0_1), (.slice A0_2 l0_2.length c0_2), (.slice A0_3 l0_3.length c0_3)] 96 (0, 0))) ∧ Aside0 (Below w.heap.size w w'))
 case atStart => exact ⟨(([] : List Int)), (0), rsz, H', ⟨Nat.le_refl _⟩, ⟨by first | exact Kd.R_nil _ _ _ _ _ | exact Kd.N_nil _ _ _ _ _ | exact Kd.V_nil _ _ _ _ _ | exact Kd.Q_nil _ _ _ _ _ | exact Kd.S_nil _ _ _ _ _⟩, ⟨by (with_reducible repeat (first | refine blk_drewN ?_ _ | refine blk_drew ?_ | refine blk_alloc ?_ _)); exact BK483.out⟩, ⟨by repeat (first | (with_reducible first | exact HB.out | apply below_alloc | apply pw_below_drewN | apply below_drew1 | refine below_set ?_ GE483.out) | exact HB.out)⟩⟩
 case round =>
  clear H'
  try clear p2
  try clear hcz4_0
  try clear hcz4_1
  try clear hcz4_2
  try clear hcz4_3
  try clear hfz4_0
  try clear hfz4_1
  try clear hfz4_2
  try clear hfz4_3
  obtain ⟨x5_1, x13_1, rfl, HA, HK1, HO_5, BK483, HB⟩ := hrel
  cases gk with
  | zero => exact absurd HA.out (by simp [feed_rule_steps.l0])
  | succ k1 =>
   have H := HA.out
   clear HA
   simp only [feed_rule_steps.l0] at H
   by_cases c5 : x13_1 < (l0_1.length : Int)
   ·
    rw [if_pos c5] at H
    have c5b0 : decide (x13_1 < (l0_1.length : Int)) = true := decide_eq_true c5
    clear c5
    by_cases c6 : 0 ≤ x13_1
    ·
     rw [if_pos c6] at H
     have c6b0 := eq_true c6
     have c6b1 : decide (0 ≤ x13_1) = true := decide_eq_true c6
     clear c6
     obtain ⟨ji7, hji7⟩ : ∃ j_ : Int, (shl .i64 1 x13_1) = j_ := ⟨_, rfl⟩
     replace H : ((feed_rule_keeps.f k1 a0_0 l0_1 l0_2 l0_3 (Go.bits .xor .i64 a1 (ji7))).bind fun t484 => (if t484 = true then (if x5_1.length < 17592186044416 then (feed_rule_steps.l0 k1 a1 (x5_1 ++ [Go.bits .xor .i64 a1 (ji7)]) (l0_1.length : Int) (wrap64 (x13_1 + 1)) a0_0 l0_1 l0_2 l0_3) else (none)) else (if x5_1.length < 17592186044416 then (feed_rule_steps.l0 k1 a1 (x5_1 ++ [(-1)]) (l0_1.length : Int) (wrap64 (x13_1 + 1)) a0_0 l0_1 l0_2 l0_3) else (none)))) = some r := by first | (rw [hji7] at H; exact H) | (simp only [hji7] at H ⊢; exact H)
     have hji7_ : (IntKind.i64.wrap (1 * 2 ^ min x13_1.toNat 64)) = ji7 := hji7
     have hji7z : x13_1 ≤ 64 → (IntKind.i64.wrap (1 * 2 ^ x13_1.toNat)) = ji7 := shl_small hji7
     have hji7u : (IntKind.i64.wrap (2 ^ min x13_1.toNat 64)) = ji7 := by have h_ := hji7_; rw [Int.one_mul] at h_; exact h_
     have hji7v : x13_1 ≤ 64 → (IntKind.i64.wrap (2 ^ x13_1.toNat)) = ji7 := fun hle_ => by have h_ := hji7z hle_; rw [Int.one_mul] at h_; exact h_
     have hji7y : (wrap64 (1 * 2 ^ min x13_1.toNat 64)) = ji7 := (i64_w _).symm.trans hji7_
     have hji7x : x13_1 ≤ 64 → (wrap64 (1 * 2 ^ x13_1.toNat)) = ji7 := fun h_ => (i64_w _).symm.trans (hji7z h_)
     replace H := Option.bind_eq_some_iff.mp H
     obtain ⟨t484, A80, H⟩ := H
     replace H : (if t484 = true then (if x5_1.length < 17592186044416 then (feed_rule_steps.l0 k1 a1 (x5_1 ++ [Go.bits .xor .i64 a1 (ji7)]) (l0_1.length : Int) (wrap64 (x13_1 + 1)) a0_0 l0_1 l0_2 l0_3) else (none)) else (if x5_1.length < 17592186044416 then (feed_rule_steps.l0 k1 a1 (x5_1 ++ [(-1)]) (l0_1.length : Int) (wrap64 (x13_1 + 1)) a0_0 l0_1 l0_2 l0_3) else (none))) = some r := H
     have A8 := Aside0.mk A80
     clear A80
     by_cases c9 : t484 = true
     ·
      subst c9
      have H1 : (if x5_1.length < 17592186044416 then (feed_rule_steps.l0 k1 a1 (x5_1 ++ [Go.bits .xor .i64 a1 (ji7)]) (l0_1.length : Int) (wrap64 (x13_1 + 1)) a0_0 l0_1 l0_2 l0_3) else (none)) = some r := by rw [if_pos rfl] at H; exact H
      clear H
      have H := H1
      clear H1
      by_cases c10 : x5_1.length < 17592186044416
      ·
       rw [if_pos c10] at H
       have LMc10 := Aside0.mk c10
       clear c10
       obtain ⟨y485, hy485⟩ : ∃ y_ : List Int, y_ = (x5_1 ++ [Go.bits .xor .i64 a1 (ji7)]) := ⟨_, rfl⟩
       replace H : (feed_rule_steps.l0 k1 a1 y485 (l0_1.length : Int) (wrap64 (x13_1 + 1)) a0_0 l0_1 l0_2 l0_3) = some r := by first | (rw [hy485]; with_reducible exact H) | (have H2_ := (Option.bind_some _ _).symm.trans H; rw [hy485]; with_reducible exact H2_) | (have H2_ := (Option.bind_some _ _).symm.trans H; with_reducible exact H2_) | with_reducible exact H | (rw [hy485]; exact H) | exact H
       have Ny485 := Aside0.mk hy485
       clear hy485
       have H' := Aside0.mk H
       clear H
       have hcz11_0 := blkc BK483.out 0 (.int .i64 a0_0) rfl
       have hcz11_1 := blkc BK483.out 1 (.slice A0_1 l0_1.length c0_1) rfl
       have hcz11_2 := blkc BK483.out 2 (.slice A0_2 l0_2.length c0_2) rfl
       have hcz11_3 := blkc BK483.out 3 (.slice A0_3 l0_3.length c0_3) rfl
       have hfz11_0 := blk_frozen BK483.out 0
       have hfz11_1 := blk_frozen BK483.out 1
       have hfz11_2 := blk_frozen BK483.out 2
       have hfz11_3 := blk_frozen BK483.out 3
       go_wp2_with (first | ((with_reducible refine gate_callee (f := 85) rfl ?_); refine goesL_ (some 22) rfl rfl Tryd.func85 (by kernel_rfl) rfl #[.agg #[.int .i64 a0_0, .slice A0_1 l0_1.length c0_1, .slice A0_2 l0_2.length c0_2, .slice A0_3 l0_3.length c0_3], .int .i64 (Go.bits .xor .i64 a1 (ji7))] rfl (by (try simp only [List.map_toArray, List.map_cons, List.map_nil]); first | done | (simp only [hji7]; rfl) | rfl | (simp only [List.length_drop, List.length_take]; rfl)) ?_; (with_reducible refine (feed_rule_keeps.calls k1 a0_0 _ _ l0_1 _ _ l0_2 _ _ l0_3 (Go.bits .xor .i64 a1 (ji7)) true _ ?side1 ?side2 ?side3 ?side4 ?side5 ?side6 ?sideT A8.out).mono ?_); (case sideT => first | exact HT.out | exact Tab.Tabs.below HT.out bel | (with_reducible repeat (first | exact HT.out | apply Tab.Tabs.alloc | apply Tab.Tabs.drewN | apply Tab.Tabs.drew))); (case side1 => exact cbz HR0_1); (case side2 => exact HC0_1.out); (case side3 => exact cbz HR0_2); (case side4 => exact HC0_2.out); (case side5 => exact cbz HR0_3); (case side6 => exact HC0_3.out); rintro e w12 ⟨rfl, hb⟩; refine ⟨_, rfl, ?_⟩; have n0_ := Aside0.mk (Kd.R_below (by (with_reducible repeat (first | apply Kd.R_alloc | apply Kd.R_drewN | apply Kd.R_drew)); exact HO_5.out) hb); have n1_ := Aside0.mk (blk_below (g := gb483) blkz hb); have n2_ := Aside0.mk (below_step bel hb); clear HO_5; clear BK483; clear HB; have HO_5 := n0_; have BK483 := n1_; have HB := n2_; clear n0_ n1_ n2_; (try clear hb); (try clear hb2); (try clear hk); (try clear hi)) | ((with_reducible refine gate_builtin (b := .append) (xs := #[.tmp 24, .tmp 26]) rfl ?_); at_builtin; refine Kd.R_append (Kd.int .i64) (w0 := w) w.heap.size rfl (.tmp 24) (.tmp 26) 28 3 (.int .i64 0) 8 rfl Tryd.underlying28 info3 rfl (by decide) (by omega) u5 x5_1 (Go.bits .xor .i64 a1 (ji7)) [.int .i64 (Go.bits .xor .i64 a1 (ji7))] (fun _ => True) (fun _ => False) rfl rfl ?aP (fun _ hk => hk.elim) ?aF ?aO ?aB ?aS ?aL ?_; (case aP => exact rfl); (case aB => exact bel); (case aF => exact (fun _ _ => trivial)); (case aO => exact (by (with_reducible repeat (first | apply Kd.R_alloc | apply Kd.R_drewN | apply Kd.R_drew)); exact HO_5.out)); (case aS => exact (below_size bel)); (case aL => have := LMc10.out; omega); intro v486 w13 ho hb hg hat; rw [← Ny485.out] at ho; have n0_ := Aside0.mk (blk_grown (g := gb483) (o := .cells #[.int .i64 a0_0, .slice A0_1 l0_1.length c0_1, .slice A0_2 l0_2.length c0_2, .slice A0_3 l0_3.length c0_3] 96 (0, 0)) blkz hg (Kd.R_ne HO_5.out BK483.out (by decide))); have n1_ := Aside0.mk (hb); have n2_ := Aside0.mk (ho); clear BK483; clear HB; clear HO_5; have BK483 := n0_; have HB := n1_; have HO487 := n2_; clear n0_ n1_ n2_; clear ho hb hg hat))
       go_roundg k1
       case measure => have := HK1.out; omega
       case rel => exact ⟨(y485), (wrap64 (x13_1 + 1)), rsz, H', ⟨by have := HK1.out; omega⟩, ⟨by (with_reducible repeat (first | apply Kd.R_alloc | apply Kd.R_drewN | apply Kd.R_drew)); exact HO487.out⟩, ⟨by (with_reducible repeat (first | refine blk_drewN ?_ _ | refine blk_drew ?_ | refine blk_alloc ?_ _)); exact BK483.out⟩, ⟨by repeat (first | (with_reducible first | exact HB.out | apply below_alloc | apply pw_below_drewN | apply below_drew1 | refine below_set ?_ GE483.out) | exact HB.out)⟩⟩
      ·
       rw [if_neg c10] at H
       exact absurd H (by simp)
     ·
      replace c9 := Bool.eq_false_iff.mpr c9
      subst c9
      have H1 : (if x5_1.length < 17592186044416 then (feed_rule_steps.l0 k1 a1 (x5_1 ++ [(-1)]) (l0_1.length : Int) (wrap64 (x13_1 + 1)) a0_0 l0_1 l0_2 l0_3) else (none)) = some r := by rw [if_neg (show ¬ (false = true) by decide)] at H; exact H
      clear H
      have H := H1
      clear H1
      by_cases c14 : x5_1.length < 17592186044416
      ·
       rw [if_pos c14] at H
       have LMc14 := Aside0.mk c14
       clear c14
       obtain ⟨y488, hy488⟩ : ∃ y_ : List Int, y_ = (x5_1 ++ [(-1)]) := ⟨_, rfl⟩
       replace H : (feed_rule_steps.l0 k1 a1 y488 (l0_1.length : Int) (wrap64 (x13_1 + 1)) a0_0 l0_1 l0_2 l0_3) = some r := by first | (rw [hy488]; with_reducible exact H) | (have H2_ := (Option.bind_some _ _).symm.trans H; rw [hy488]; with_reducible exact H2_) | (have H2_ := (Option.bind_some _ _).symm.trans H; with_reducible exact H2_) | with_reducible exact H | (rw [hy488]; exact H) | exact H
       have Ny488 := Aside0.mk hy488
       clear hy488
       have H' := Aside0.mk H
       clear H
       have hcz15_0 := blkc BK483.out 0 (.int .i64 a0_0) rfl
       have hcz15_1 := blkc BK483.out 1 (.slice A0_1 l0_1.length c0_1) rfl
       have hcz15_2 := blkc BK483.out 2 (.slice A0_2 l0_2.length c0_2) rfl
       have hcz15_3 := blkc BK483.out 3 (.slice A0_3 l0_3.length c0_3) rfl
       have hfz15_0 := blk_frozen BK483.out 0
       have hfz15_1 := blk_frozen BK483.out 1
       have hfz15_2 := blk_frozen BK483.out 2
       have hfz15_3 := blk_frozen BK483.out 3
       go_wp2_with (first | ((with_reducible refine gate_callee (f := 85) rfl ?_); refine goesL_ (some 22) rfl rfl Tryd.func85 (by kernel_rfl) rfl #[.agg #[.int .i64 a0_0, .slice A0_1 l0_1.length c0_1, .slice A0_2 l0_2.length c0_2, .slice A0_3 l0_3.length c0_3], .int .i64 (Go.bits .xor .i64 a1 (ji7))] rfl (by (try simp only [List.map_toArray, List.map_cons, List.map_nil]); first | done | (simp only [hji7]; rfl) | rfl | (simp only [List.length_drop, List.length_take]; rfl)) ?_; (with_reducible refine (feed_rule_keeps.calls k1 a0_0 _ _ l0_1 _ _ l0_2 _ _ l0_3 (Go.bits .xor .i64 a1 (ji7)) false _ ?side1 ?side2 ?side3 ?side4 ?side5 ?side6 ?sideT A8.out).mono ?_); (case sideT => first | exact HT.out | exact Tab.Tabs.below HT.out bel | (with_reducible repeat (first | exact HT.out | apply Tab.Tabs.alloc | apply Tab.Tabs.drewN | apply Tab.Tabs.drew))); (case side1 => exact cbz HR0_1); (case side2 => exact HC0_1.out); (case side3 => exact cbz HR0_2); (case side4 => exact HC0_2.out); (case side5 => exact cbz HR0_3); (case side6 => exact HC0_3.out); rintro e w16 ⟨rfl, hb⟩; refine ⟨_, rfl, ?_⟩; have n0_ := Aside0.mk (Kd.R_below (by (with_reducible repeat (first | apply Kd.R_alloc | apply Kd.R_drewN | apply Kd.R_drew)); exact HO_5.out) hb); have n1_ := Aside0.mk (blk_below (g := gb483) blkz hb); have n2_ := Aside0.mk (below_step bel hb); clear HO_5; clear BK483; clear HB; have HO_5 := n0_; have BK483 := n1_; have HB := n2_; clear n0_ n1_ n2_; (try clear hb); (try clear hb2); (try clear hk); (try clear hi)) | ((with_reducible refine gate_builtin (b := .append) (xs := #[.tmp 24, .tmp 26]) rfl ?_); at_builtin; refine Kd.R_append (Kd.int .i64) (w0 := w) w.heap.size rfl (.tmp 24) (.tmp 26) 28 3 (.int .i64 0) 8 rfl Tryd.underlying28 info3 rfl (by decide) (by omega) u5 x5_1 (-1) [.int .i64 (-1)] (fun _ => True) (fun _ => False) rfl rfl ?aP (fun _ hk => hk.elim) ?aF ?aO ?aB ?aS ?aL ?_; (case aP => exact rfl); (case aB => exact bel); (case aF => exact (fun _ _ => trivial)); (case aO => exact (by (with_reducible repeat (first | apply Kd.R_alloc | apply Kd.R_drewN | apply Kd.R_drew)); exact HO_5.out)); (case aS => exact (below_size bel)); (case aL => have := LMc14.out; omega); intro v489 w17 ho hb hg hat; rw [← Ny488.out] at ho; have n0_ := Aside0.mk (blk_grown (g := gb483) (o := .cells #[.int .i64 a0_0, .slice A0_1 l0_1.length c0_1, .slice A0_2 l0_2.length c0_2, .slice A0_3 l0_3.length c0_3] 96 (0, 0)) blkz hg (Kd.R_ne HO_5.out BK483.out (by decide))); have n1_ := Aside0.mk (hb); have n2_ := Aside0.mk (ho); clear BK483; clear HB; clear HO_5; have BK483 := n0_; have HB := n1_; have HO490 := n2_; clear n0_ n1_ n2_; clear ho hb hg hat))
       go_roundg k1
       case measure => have := HK1.out; omega
       case rel => exact ⟨(y488), (wrap64 (x13_1 + 1)), rsz, H', ⟨by have := HK1.out; omega⟩, ⟨by (with_reducible repeat (first | apply Kd.R_alloc | apply Kd.R_drewN | apply Kd.R_drew)); exact HO490.out⟩, ⟨by (with_reducible repeat (first | refine blk_drewN ?_ _ | refine blk_drew ?_ | refine blk_alloc ?_ _)); exact BK483.out⟩, ⟨by repeat (first | (with_reducible first | exact HB.out | apply below_alloc | apply pw_below_drewN | apply below_drew1 | refine below_set ?_ GE483.out) | exact HB.out)⟩⟩
      ·
       rw [if_neg c14] at H
       exact absurd H (by simp)
    ·
     rw [if_neg c6] at H
     exact absurd H (by simp)
   ·
    rw [if_neg c5] at H
    have c5b0 : decide (x13_1 < (l0_1.length : Int)) = false := decide_eq_false c5
    clear c5
    obtain rfl := Option.some.inj H
    go_wp2
    go_ret
    exact ⟨_, by first | rfl | (simp [errW_none, errW_some] <;> rfl) | (simp [*, errW_none, errW_some] <;> rfl), by (with_reducible repeat (first | apply Kd.R_alloc | apply Kd.R_drewN | apply Kd.R_drew)); exact HO_5.out, by repeat (first | (with_reducible first | exact HB.out | apply below_alloc | apply pw_below_drewN | apply below_drew1 | refine below_set ?_ GE483.out) | exact HB.out)⟩

end Go.Proofs.YtoilhnmdemnknaaDoor.XFeed

-- Written by wip/xprint.py of this repo, over the kit's print.py: out of the translation; the oracles in it are by hand. Not trusted: Lean checks it.
namespace Go.Proofs.YtoilhnmdemnknaaDoor.XFeed
open Go.RowKit Go.Proofs.YtoilhnmdemnknaaDoorW.PrintWords Go.Proofs.YtoilhnmdemnknaaDoorW.PrintLast Go.Proofs.YtoilhnmdemnknaaDoorW.PrintMore
attribute [local go_sem] max2_int min2_int max_two min_two max_three min_three max_four min_four   -- for this text's walks alone
set_option linter.unusedVariables false
set_option linter.unusedSimpArgs false

/-! ### feed_IsOrder: function 32 -/
mutual
def feed_IsOrder.j0 : Nat → Int → List Int → Int → Bool → Int → List (S69) → List (S71) → List Int → Option (Bool × Int)
 | 0, _, _, _, _, _, _, _, _ => none
 | k + 1, x1, x3, x11, x21, x504000, x504001, x504002, x504003 => if x21 = true then (some (false, 2)) else (if x11 = 0 then (feed_IsOrder.l0 k x1 x3 (x3.length : Int) 0 x504000 x504001 x504002 x504003) else (some (false, x11)))
def feed_IsOrder.l0 : Nat → Int → List Int → Int → Int → Int → List (S69) → List (S71) → List Int → Option (Bool × Int)
 | 0, _, _, _, _, _, _, _, _ => none
 | k + 1, x1, x35, x36, x37, x504000, x504001, x504002, x504003 => if x37 < x36 then (if 0 ≤ x37 then (if x37 < (x35.length : Int) then ((feed_rule_steps.f k x504000 x504001 x504002 x504003 x1).bind fun t506 => (if 0 ≤ (rd x35 x37) then (if (rd x35 x37) < (t506.length : Int) then (if (rd t506 (rd x35 x37)) < 0 then (some (false, 0)) else (feed_IsOrder.l0 k (rd t506 (rd x35 x37)) x35 x36 (wrap64 (x37 + 1)) x504000 x504001 x504002 x504003)) else (none)) else (none))) else (none)) else (none)) else (some (true, 0))
end
def feed_IsOrder.f (k : Nat) (a0_0 : Int) (l0_1 : List (S69)) (l0_2 : List (S71)) (a1 : Int) (l2 : List Int) (l3 : List Int) : Option (Bool × Int) := (feed_ruled.f k a0_0 l0_1 l0_2 a1 l2).bind fun bt492 => (if bt492.2 = 0 then ((feed_grid_switches.f bt492.1 l0_1 l0_2 l3).bind fun t504 => (feed_IsOrder.j0 k a1 l3 bt492.2 (!t504) bt492.1 l0_1 l0_2 l2)) else (feed_IsOrder.j0 k a1 l3 bt492.2 false bt492.1 l0_1 l0_2 l2))
theorem feed_IsOrder.mono_l : ∀ k, (∀ y0 y1 y2 y3 y4 y5 y6 y7, LeO (feed_IsOrder.j0 k y0 y1 y2 y3 y4 y5 y6 y7) (feed_IsOrder.j0 (k + 1) y0 y1 y2 y3 y4 y5 y6 y7)) ∧ (∀ y0 y1 y2 y3 y4 y5 y6 y7, LeO (feed_IsOrder.l0 k y0 y1 y2 y3 y4 y5 y6 y7) (feed_IsOrder.l0 (k + 1) y0 y1 y2 y3 y4 y5 y6 y7))
 | 0 => ⟨fun _ _ _ _ _ _ _ _ r h => by simp [feed_IsOrder.j0] at h, fun _ _ _ _ _ _ _ _ r h => by simp [feed_IsOrder.l0] at h⟩
 | k + 1 => by
  obtain ⟨ih0, ih1⟩ := feed_IsOrder.mono_l k
  refine ⟨?_, ?_⟩
  ·
   intro y0 y1 y2 y3 y4 y5 y6 y7
   unfold feed_IsOrder.j0
   repeat' first
   | (with_reducible exact ih0 _ _ _ _ _ _ _ _)
   | (with_reducible exact ih1 _ _ _ _ _ _ _ _)
   | (with_reducible exact feed_rule_steps.mono _ _ _ _ _ _)
   | (with_reducible exact feed_ruled.mono _ _ _ _ _ _)
   | (with_reducible exact LeO.refl _)
   | (with_reducible exact LeO.none _)
   | (with_reducible refine LeO.ite ?_ ?_)
   | (with_reducible refine LeO.bind ?_ (fun _ => ?_))
   | exact ih0 _ _ _ _ _ _ _ _
   | exact ih1 _ _ _ _ _ _ _ _
   | exact feed_rule_steps.mono _ _ _ _ _ _
   | exact feed_ruled.mono _ _ _ _ _ _
   | exact LeO.none _
   | refine LeO.ite ?_ ?_
   | refine LeO.bind ?_ (fun _ => ?_)
  ·
   intro y0 y1 y2 y3 y4 y5 y6 y7
   unfold feed_IsOrder.l0
   repeat' first
   | (with_reducible exact ih0 _ _ _ _ _ _ _ _)
   | (with_reducible exact ih1 _ _ _ _ _ _ _ _)
   | (with_reducible exact feed_rule_steps.mono _ _ _ _ _ _)
   | (with_reducible exact feed_ruled.mono _ _ _ _ _ _)
   | (with_reducible exact LeO.refl _)
   | (with_reducible exact LeO.none _)
   | (with_reducible refine LeO.ite ?_ ?_)
   | (with_reducible refine LeO.bind ?_ (fun _ => ?_))
   | exact ih0 _ _ _ _ _ _ _ _
   | exact ih1 _ _ _ _ _ _ _ _
   | exact feed_rule_steps.mono _ _ _ _ _ _
   | exact feed_ruled.mono _ _ _ _ _ _
   | exact LeO.none _
   | refine LeO.ite ?_ ?_
   | refine LeO.bind ?_ (fun _ => ?_)
theorem feed_IsOrder.mono : ∀ a0 a1 a2 a3 a4 a5 k, LeO (feed_IsOrder.f k a0 a1 a2 a3 a4 a5) (feed_IsOrder.f (k + 1) a0 a1 a2 a3 a4 a5) := by
 intro a0 a1 a2 a3 a4 a5 k
 obtain ⟨ih0, ih1⟩ := feed_IsOrder.mono_l k
 unfold feed_IsOrder.f
 repeat' first
   | (with_reducible exact ih0 _ _ _ _ _ _ _ _)
   | (with_reducible exact ih1 _ _ _ _ _ _ _ _)
   | (with_reducible exact feed_rule_steps.mono _ _ _ _ _ _)
   | (with_reducible exact feed_ruled.mono _ _ _ _ _ _)
   | (with_reducible exact LeO.refl _)
   | (with_reducible exact LeO.none _)
   | (with_reducible refine LeO.ite ?_ ?_)
   | (with_reducible refine LeO.bind ?_ (fun _ => ?_))
   | exact ih0 _ _ _ _ _ _ _ _
   | exact ih1 _ _ _ _ _ _ _ _
   | exact feed_rule_steps.mono _ _ _ _ _ _
   | exact feed_ruled.mono _ _ _ _ _ _
   | exact LeO.none _
   | refine LeO.ite ?_ ?_
   | refine LeO.bind ?_ (fun _ => ?_)
set_option maxHeartbeats 8000000 in
set_option maxRecDepth 100000 in
theorem feed_IsOrder.calls (k : Nat) (a0_0 : Int) (A0_1 : Option Addr) (c0_1 : Nat) (l0_1 : List (S69)) (A0_2 : Option Addr) (c0_2 : Nat) (l0_2 : List (S71)) (a1 : Int) (A2 : Option Addr) (c2 : Nat) (l2 : List Int) (A3 : Option Addr) (c3 : Nat) (l3 : List Int) (r1 : Bool) (r2 : Int) (w : World) (hr0_1 : Kd.C k69 w A0_1 l0_1.length l0_1) (hc0_1 : l0_1.length ≤ c0_1) (hr0_2 : Kd.C k71 w A0_2 l0_2.length l0_2) (hc0_2 : l0_2.length ≤ c0_2) (hr2 : Kd.C (Kd.int .i64) w A2 l2.length l2) (hc2 : l2.length ≤ c2) (hr3 : Kd.C (Kd.int .i64) w A3 l3.length l3) (hc3 : l3.length ≤ c3) (hT : Tab.Tabs w) (h : feed_IsOrder.f k a0_0 l0_1 l0_2 a1 l2 l3 = some (r1, r2)) :
  Calls Tryd.prog 32 #[.agg #[.int .i64 a0_0, .slice A0_1 l0_1.length c0_1, .slice A0_2 l0_2.length c0_2], .int .i64 a1, .slice A2 l2.length c2, .slice A3 l3.length c3] w fun e w' => e = .returned (.tuple #[.bool r1, .int .i64 r2]) ∧ Below w.heap.size w w' := by
 have HT := Aside0.mk hT
 clear hT
 have hu25 := Tryd.underlying25
 have hu96 := Tryd.underlying96
 have hu73 := Tryd.underlying73
 have HR0_1 := Aside0.mk hr0_1
 have HC0_1 := Aside0.mk hc0_1
 clear hr0_1 hc0_1
 have HR0_2 := Aside0.mk hr0_2
 have HC0_2 := Aside0.mk hc0_2
 clear hr0_2 hc0_2
 have HR2 := Aside0.mk hr2
 have HC2 := Aside0.mk hc2
 clear hr2 hc2
 have HR3 := Aside0.mk hr3
 have HC3 := Aside0.mk hc3
 clear hr3 hc3
 have HB := Aside0.mk (Below.refl w.heap.size w)
 have H : ((feed_ruled.f k a0_0 l0_1 l0_2 a1 l2).bind fun bt492 => (if bt492.2 = 0 then ((feed_grid_switches.f bt492.1 l0_1 l0_2 l3).bind fun t504 => (feed_IsOrder.j0 k a1 l3 bt492.2 (!t504) bt492.1 l0_1 l0_2 l2)) else (feed_IsOrder.j0 k a1 l3 bt492.2 false bt492.1 l0_1 l0_2 l2))) = some (r1, r2) := h
 clear h
 replace H := Option.bind_eq_some_iff.mp H
 obtain ⟨⟨t492, t502⟩, A50, H⟩ := H
 replace H : (if t502 = 0 then ((feed_grid_switches.f t492 l0_1 l0_2 l3).bind fun t504 => (feed_IsOrder.j0 k a1 l3 t502 (!t504) t492 l0_1 l0_2 l2)) else (feed_IsOrder.j0 k a1 l3 t502 false t492 l0_1 l0_2 l2)) = some (r1, r2) := H
 have A5 := Aside0.mk A50
 clear A50
 have HC6 := Aside0.mk H
 clear H
 go_enter Tryd.func32, Tryd.ntmps32
 go_upto_region 2 with (first | ((with_reducible refine gate_dst (N := 4) rfl ?_); refine box_event ?hg (N := 4) ?hd (cs := #[.int .i64 a0_0, .slice A0_1 l0_1.length c0_1, .slice A0_2 l0_2.length c0_2]) (t := 25) ?hr ?_; (case hd => rfl); (case hg => rfl); (case hr => first | (go_simp; done) | (go_simp; rfl)); intro gb491 hg w7 hbox hb; have n0_ := Aside0.mk (below_step bel hb); have n1_ := Aside0.mk (hbox); have n2_ := Aside0.mk ((by rw [hg]; exact (below_size bel) : w.heap.size ≤ gb491)); have n3_ := n2_; clear HB; have HB := n0_; have BK491 := n1_; have GW491 := n2_; have GE491 := n3_; clear n0_ n1_ n2_ n3_; clear hb hbox hg; have hcz8_0 := blkc BK491.out 0 (.int .i64 a0_0) rfl; have hcz8_1 := blkc BK491.out 1 (.slice A0_1 l0_1.length c0_1) rfl; have hcz8_2 := blkc BK491.out 2 (.slice A0_2 l0_2.length c0_2) rfl; have hfz8_0 := blk_frozen BK491.out 0; have hfz8_1 := blk_frozen BK491.out 1; have hfz8_2 := blk_frozen BK491.out 2) | ((with_reducible refine gate_callee (f := 69) rfl ?_); refine goesL_ (some 18) rfl rfl Tryd.func69 (by kernel_rfl) rfl #[.agg #[.int .i64 a0_0, .slice A0_1 l0_1.length c0_1, .slice A0_2 l0_2.length c0_2], .int .i64 a1, .slice A2 l2.length c2] rfl mapz ?_; (with_reducible refine (feed_ruled.calls k a0_0 _ _ l0_1 _ _ l0_2 a1 _ _ l2 t492 t502 _ ?side1 ?side2 ?side3 ?side4 ?side5 ?side6 ?sideT A5.out).mono ?_); (case sideT => first | exact HT.out | exact Tab.Tabs.below HT.out bel | (with_reducible repeat (first | exact HT.out | apply Tab.Tabs.alloc | apply Tab.Tabs.drewN | apply Tab.Tabs.drew))); (case side1 => exact cbz HR0_1); (case side2 => exact HC0_1.out); (case side3 => exact cbz HR0_2); (case side4 => exact HC0_2.out); (case side5 => exact cbz HR2); (case side6 => exact HC2.out); rintro e w9 ⟨rfl, hb⟩; refine ⟨_, rfl, ?_⟩; have n0_ := Aside0.mk (blk_below (g := gb491) blkz hb); have n1_ := Aside0.mk (below_step bel hb); clear BK491; clear HB; have BK491 := n0_; have HB := n1_; clear n0_ n1_; (try clear hb); (try clear hb2); (try clear hk); (try clear hi)) | ((with_reducible refine gate_dst (N := 10) rfl ?_); refine box_event ?hg (N := 10) ?hd (cs := #[.int .i64 0, .slice none 0 0, .slice none 0 0, .slice none 0 0]) (t := 96) ?hr ?_; (case hd => rfl); (case hg => rfl); (case hr => first | (go_simp; done) | (go_simp; rfl)); intro gb503 hg w10 hbox hb; have n0_ := Aside0.mk (blk_below (g := gb491) blkz hb); have n1_ := Aside0.mk (below_step bel hb); have n2_ := Aside0.mk (hbox); have n3_ := Aside0.mk ((by rw [hg]; exact (below_size bel) : w.heap.size ≤ gb503)); have n4_ := n3_; have n5_ := Aside0.mk ((by rw [hg]; exact Nat.ne_of_lt (blk_lt (g := gb491) (o := .cells #[.int .i64 a0_0, .slice A0_1 l0_1.length c0_1, .slice A0_2 l0_2.length c0_2] 25 (0, 0)) blkz) : gb491 ≠ gb503)); have n6_ := Aside0.mk ((by rw [hg]; exact Nat.ne_of_gt (blk_lt (g := gb491) (o := .cells #[.int .i64 a0_0, .slice A0_1 l0_1.length c0_1, .slice A0_2 l0_2.length c0_2] 25 (0, 0)) blkz) : gb503 ≠ gb491)); clear BK491; clear HB; have BK491 := n0_; have HB := n1_; have BK503 := n2_; have GW503 := n3_; have GE503 := n4_; have NB491_503 := n5_; have NB503_491 := n6_; clear n0_ n1_ n2_ n3_ n4_ n5_ n6_; clear hb hbox hg; have hnb11 := NB503_491.out; have hnc11 := NB491_503.out; have hcz12_0 := blkc BK503.out 0 (.int .i64 0) rfl; have hcz12_1 := blkc BK503.out 1 (.slice none 0 0) rfl; have hcz12_2 := blkc BK503.out 2 (.slice none 0 0) rfl; have hcz12_3 := blkc BK503.out 3 (.slice none 0 0) rfl; have hfz12_0 := blk_frozen BK503.out 0; have hfz12_1 := blk_frozen BK503.out 1; have hfz12_2 := blk_frozen BK503.out 2; have hfz12_3 := blk_frozen BK503.out 3))
 (try simp only [Act.put, List.setIfInBounds_toArray, List.set_cons_zero, List.set_cons_succ])
 go_cut [21] (fun v21 wc => ∃ (kq : Nat) (x21_5 : Bool), v21 = .bool x21_5 ∧ Aside0 (feed_IsOrder.j0 kq a1 l3 t502 x21_5 t492 l0_1 l0_2 l2 = some (r1, r2)) ∧ Aside0 (kq ≤ k) ∧ Aside0 (wc.heap[gb491]? = some (.cells #[.int .i64 a0_0, (.slice A0_1 l0_1.length c0_1), (.slice A0_2 l0_2.length c0_2)] 25 (0, 0))) ∧ Aside0 (wc.heap[gb503]? = some (.cells #[.int .i64 t492, (.slice A0_1 l0_1.length c0_1), (.slice A0_2 l0_2.length c0_2), (.slice A2 l2.length c2)] 96 (0, 0))) ∧ Aside0 (Below w.heap.size w wc))
 case first =>
  have H := HC6.out
  clear HC6
  by_cases c13 : t502 = 0
  ·
   rw [if_pos c13] at H
   have c13b0 : (t502 == 0) = true := beq_iff_eq.mpr c13
   have c13b1 : (t502 != 0) = false := bne_eq_false_iff_eq.mpr c13
   clear c13
   (first | rw [c13b0] | (simp only [i64_w, i32_w]; rw [c13b0]) | skip)
   replace H := Option.bind_eq_some_iff.mp H
   obtain ⟨t504, A140, H⟩ := H
   replace H : (feed_IsOrder.j0 k a1 l3 t502 (!t504) t492 l0_1 l0_2 l2) = some (r1, r2) := H
   have A14 := Aside0.mk A140
   clear A140
   have H' := Aside0.mk H
   clear H
   have hnb15 := NB503_491.out
   have hnc15 := NB491_503.out
   have hcz16_0 := blkc BK503.out 0 (.int .i64 0) rfl
   have hcz16_1 := blkc BK503.out 1 (.slice none 0 0) rfl
   have hcz16_2 := blkc BK503.out 2 (.slice none 0 0) rfl
   have hcz16_3 := blkc BK503.out 3 (.slice none 0 0) rfl
   have hfz16_0 := blk_frozen BK503.out 0
   have hfz16_1 := blk_frozen BK503.out 1
   have hfz16_2 := blk_frozen BK503.out 2
   have hfz16_3 := blk_frozen BK503.out 3
   go_wp2_with (first | (go_at_call 70; (with_reducible refine (feed_grid_switches.calls t492 _ _ l0_1 _ _ l0_2 _ _ l3 t504 _ ?side1 ?side2 ?side3 ?side4 ?side5 ?side6 A14.out).mono ?_); (case side1 => exact cbz HR0_1); (case side2 => exact HC0_1.out); (case side3 => exact cbz HR0_2); (case side4 => exact HC0_2.out); (case side5 => exact cbz HR3); (case side6 => exact HC3.out); rintro e w17 ⟨rfl, hb⟩; have n0_ := Aside0.mk (blk_below (g := gb491) (o := .cells #[.int .i64 a0_0, .slice A0_1 l0_1.length c0_1, .slice A0_2 l0_2.length c0_2] 25 (0, 0)) (by (with_reducible repeat (first | refine blk_drewN ?_ _ | refine blk_drew ?_ | refine blk_alloc ?_ _)); refine blk_far ?_ NB491_503.out _; (with_reducible repeat (first | refine blk_drewN ?_ _ | refine blk_drew ?_ | refine blk_alloc ?_ _)); refine blk_far ?_ NB491_503.out _; (with_reducible repeat (first | refine blk_drewN ?_ _ | refine blk_drew ?_ | refine blk_alloc ?_ _)); refine blk_far ?_ NB491_503.out _; (with_reducible repeat (first | refine blk_drewN ?_ _ | refine blk_drew ?_ | refine blk_alloc ?_ _)); refine blk_far ?_ NB491_503.out _; (with_reducible repeat (first | refine blk_drewN ?_ _ | refine blk_drew ?_ | refine blk_alloc ?_ _)); exact BK491.out) hb); have n1_ := Aside0.mk (blk_below (g := gb503) (o := .cells #[.int .i64 t492, .slice A0_1 l0_1.length c0_1, .slice A0_2 l0_2.length c0_2, .slice A2 l2.length c2] 96 (0, 0)) (by (with_reducible repeat (first | refine blk_drewN ?_ _ | refine blk_drew ?_ | refine blk_alloc ?_ _)); refine blk_put (cs := #[.int .i64 t492, .slice A0_1 l0_1.length c0_1, .slice A0_2 l0_2.length c0_2, .slice none 0 0]) ?_ 3 _ rfl; (with_reducible repeat (first | refine blk_drewN ?_ _ | refine blk_drew ?_ | refine blk_alloc ?_ _)); refine blk_put (cs := #[.int .i64 t492, .slice A0_1 l0_1.length c0_1, .slice none 0 0, .slice none 0 0]) ?_ 2 _ rfl; (with_reducible repeat (first | refine blk_drewN ?_ _ | refine blk_drew ?_ | refine blk_alloc ?_ _)); refine blk_put (cs := #[.int .i64 t492, .slice none 0 0, .slice none 0 0, .slice none 0 0]) ?_ 1 _ rfl; (with_reducible repeat (first | refine blk_drewN ?_ _ | refine blk_drew ?_ | refine blk_alloc ?_ _)); refine blk_put (cs := #[.int .i64 0, .slice none 0 0, .slice none 0 0, .slice none 0 0]) ?_ 0 _ rfl; (with_reducible repeat (first | refine blk_drewN ?_ _ | refine blk_drew ?_ | refine blk_alloc ?_ _)); exact BK503.out) hb); have n2_ := Aside0.mk (below_step bel hb); clear BK491; clear BK503; clear HB; have BK491 := n0_; have BK503 := n1_; have HB := n2_; clear n0_ n1_ n2_; (try clear hb); (try clear hb2); (try clear hk); (try clear hi)))
   go_meet
   case rel => exact ⟨_, (!t504), rsz, H', ⟨by first | omega | exact Nat.le_refl _⟩, ⟨by (with_reducible repeat (first | refine blk_drewN ?_ _ | refine blk_drew ?_ | refine blk_alloc ?_ _)); exact BK491.out⟩, ⟨by (with_reducible repeat (first | refine blk_drewN ?_ _ | refine blk_drew ?_ | refine blk_alloc ?_ _)); exact BK503.out⟩, ⟨by repeat (first | (with_reducible first | exact HB.out | apply below_alloc | apply pw_below_drewN | apply below_drew1 | refine below_set ?_ GE491.out | refine below_set ?_ GE503.out) | exact HB.out)⟩⟩
  ·
   rw [if_neg c13] at H
   have c13b0 : (t502 == 0) = false := beq_eq_false_iff_ne.mpr c13
   have c13b1 : (t502 != 0) = true := bne_iff_ne.mpr c13
   (first | rw [c13b0] | (simp only [i64_w, i32_w]; rw [c13b0]) | skip)
   have H' := Aside0.mk H
   clear H
   go_wp2
   go_meet
   case rel => exact ⟨_, (false), rsz, H', ⟨by first | omega | exact Nat.le_refl _⟩, ⟨by (with_reducible repeat (first | refine blk_drewN ?_ _ | refine blk_drew ?_ | refine blk_alloc ?_ _)); refine blk_far ?_ NB491_503.out _; (with_reducible repeat (first | refine blk_drewN ?_ _ | refine blk_drew ?_ | refine blk_alloc ?_ _)); refine blk_far ?_ NB491_503.out _; (with_reducible repeat (first | refine blk_drewN ?_ _ | refine blk_drew ?_ | refine blk_alloc ?_ _)); refine blk_far ?_ NB491_503.out _; (with_reducible repeat (first | refine blk_drewN ?_ _ | refine blk_drew ?_ | refine blk_alloc ?_ _)); refine blk_far ?_ NB491_503.out _; (with_reducible repeat (first | refine blk_drewN ?_ _ | refine blk_drew ?_ | refine blk_alloc ?_ _)); exact BK491.out⟩, ⟨by (with_reducible repeat (first | refine blk_drewN ?_ _ | refine blk_drew ?_ | refine blk_alloc ?_ _)); refine blk_put (cs := #[.int .i64 t492, .slice A0_1 l0_1.length c0_1, .slice A0_2 l0_2.length c0_2, .slice none 0 0]) ?_ 3 _ rfl; (with_reducible repeat (first | refine blk_drewN ?_ _ | refine blk_drew ?_ | refine blk_alloc ?_ _)); refine blk_put (cs := #[.int .i64 t492, .slice A0_1 l0_1.length c0_1, .slice none 0 0, .slice none 0 0]) ?_ 2 _ rfl; (with_reducible repeat (first | refine blk_drewN ?_ _ | refine blk_drew ?_ | refine blk_alloc ?_ _)); refine blk_put (cs := #[.int .i64 t492, .slice none 0 0, .slice none 0 0, .slice none 0 0]) ?_ 1 _ rfl; (with_reducible repeat (first | refine blk_drewN ?_ _ | refine blk_drew ?_ | refine blk_alloc ?_ _)); refine blk_put (cs := #[.int .i64 0, .slice none 0 0, .slice none 0 0, .slice none 0 0]) ?_ 0 _ rfl; (with_reducible repeat (first | refine blk_drewN ?_ _ | refine blk_drew ?_ | refine blk_alloc ?_ _)); exact BK503.out⟩, ⟨by repeat (first | (with_reducible first | exact HB.out | apply below_alloc | apply pw_below_drewN | apply below_drew1 | refine below_set ?_ GE491.out | refine below_set ?_ GE503.out) | exact HB.out)⟩⟩
 case rest =>
  clear HC6
  try clear c1
  try clear c2
  try clear p2
  try clear c3
  try clear c6
  try clear c11
  try clear c13
  try clear c13b0
  try clear c13b1
  try clear c15
  try clear hcz12_0
  try clear hcz12_1
  try clear hcz12_2
  try clear hcz12_3
  try clear hcz16_0
  try clear hcz16_1
  try clear hcz16_2
  try clear hcz16_3
  try clear hcz8_0
  try clear hcz8_1
  try clear hcz8_2
  try clear hfz12_0
  try clear hfz12_1
  try clear hfz12_2
  try clear hfz12_3
  try clear hfz16_0
  try clear hfz16_1
  try clear hfz16_2
  try clear hfz16_3
  try clear hfz8_0
  try clear hfz8_1
  try clear hfz8_2
  obtain ⟨kq, x21_5, rfl, HA, HJ5, BK491, BK503, HB⟩ := hcut
  cases kq with
  | zero => exact absurd HA.out (by simp [feed_IsOrder.j0])
  | succ kj5 =>
   have H := HA.out
   clear HA
   simp only [feed_IsOrder.j0] at H
   by_cases c18 : x21_5 = true
   ·
    subst c18
    have H1 : (some (false, 2)) = some (r1, r2) := by rw [if_pos rfl] at H; exact H
    clear H
    have H := H1
    clear H1
    simp only [Option.some.injEq, Prod.mk.injEq] at H
    obtain ⟨rfl, rfl⟩ := H
    go_wp2
    go_ret2
    exact ⟨by first | rfl | (simp [errW_none, errW_some] <;> rfl) | (simp [*, errW_none, errW_some] <;> rfl), by repeat (first | (with_reducible first | exact HB.out | apply below_alloc | apply pw_below_drewN | apply below_drew1 | refine below_set ?_ GE491.out | refine below_set ?_ GE503.out) | exact HB.out)⟩
   ·
    replace c18 := Bool.eq_false_iff.mpr c18
    subst c18
    have H1 : (if t502 = 0 then (feed_IsOrder.l0 kj5 a1 l3 (l3.length : Int) 0 t492 l0_1 l0_2 l2) else (some (false, t502))) = some (r1, r2) := by rw [if_neg (show ¬ (false = true) by decide)] at H; exact H
    clear H
    have H := H1
    clear H1
    by_cases c19 : t502 = 0
    ·
     rw [if_pos c19] at H
     have c19b0 : (t502 == 0) = true := beq_iff_eq.mpr c19
     have c19b1 : (t502 != 0) = false := bne_eq_false_iff_eq.mpr c19
     clear c19
     have H' := Aside0.mk H
     clear H
     go_wp2
     go_loopg [1, 37] kj5 (fun kq v1 v37 w' => ∃ (x1_2 : Int) (x37_2 : Int), v1 = .int .i64 x1_2 ∧ v37 = .int .i64 x37_2 ∧ Aside0 (feed_IsOrder.l0 kq x1_2 l3 (l3.length : Int) x37_2 t492 l0_1 l0_2 l2 = some (r1, r2)) ∧ Aside0 (kq ≤ kj5) ∧ Aside0 (w'.heap[gb491]? = some (.cells #[.int .i64 a0_0, (.slice A0_1 l0_1.length c0_1), (.slice A0_2 l0_2.length c0_2)] 25 (0, 0))) ∧ Aside0 (w'.heap[gb503]? = some (.cells #[.int .i64 t492, (.slice A0_1 l0_1.length c0_1), (.slice A0_2 l0_2.length c0_2), (.slice A2 l2.length c2)] 96 (0, 0))) ∧ Aside0 (Below w.heap.size w w'))
     case atStart => exact ⟨(a1), (0), rsz, rsz, H', ⟨Nat.le_refl _⟩, ⟨by (with_reducible repeat (first | refine blk_drewN ?_ _ | refine blk_drew ?_ | refine blk_alloc ?_ _)); exact BK491.out⟩, ⟨by (with_reducible repeat (first | refine blk_drewN ?_ _ | refine blk_drew ?_ | refine blk_alloc ?_ _)); exact BK503.out⟩, ⟨by repeat (first | (with_reducible first | exact HB.out | apply below_alloc | apply pw_below_drewN | apply below_drew1 | refine below_set ?_ GE491.out | refine below_set ?_ GE503.out) | exact HB.out)⟩⟩
     case round =>
      clear H'
      try clear c1
      try clear c2
      try clear p2
      try clear c3
      try clear c6
      try clear c11
      try clear c13
      try clear c13b0
      try clear c13b1
      try clear c15
      try clear c18
      try clear c19
      try clear c19b0
      try clear c19b1
      try clear hcz12_0
      try clear hcz12_1
      try clear hcz12_2
      try clear hcz12_3
      try clear hcz16_0
      try clear hcz16_1
      try clear hcz16_2
      try clear hcz16_3
      try clear hcz8_0
      try clear hcz8_1
      try clear hcz8_2
      try clear hfz12_0
      try clear hfz12_1
      try clear hfz12_2
      try clear hfz12_3
      try clear hfz16_0
      try clear hfz16_1
      try clear hfz16_2
      try clear hfz16_3
      try clear hfz8_0
      try clear hfz8_1
      try clear hfz8_2
      try clear p2
      obtain ⟨x1_2, x37_2, rfl, rfl, HA, HK2, BK491, BK503, HB⟩ := hrel
      cases gk with
      | zero => exact absurd HA.out (by simp [feed_IsOrder.l0])
      | succ k2 =>
       have H := HA.out
       clear HA
       simp only [feed_IsOrder.l0] at H
       by_cases c20 : x37_2 < (l3.length : Int)
       ·
        rw [if_pos c20] at H
        have c20b0 : decide (x37_2 < (l3.length : Int)) = true := decide_eq_true c20
        clear c20
        by_cases c21 : 0 ≤ x37_2
        ·
         rw [if_pos c21] at H
         have c21b0 : decide (0 ≤ x37_2) = true := decide_eq_true c21
         clear c21
         by_cases c22 : x37_2 < (l3.length : Int)
         ·
          rw [if_pos c22] at H
          have c22b0 : decide (x37_2 < (l3.length : Int)) = true := decide_eq_true c22
          clear c22
          replace H := Option.bind_eq_some_iff.mp H
          obtain ⟨t506, A230, H⟩ := H
          replace H : (if 0 ≤ (rd l3 x37_2) then (if (rd l3 x37_2) < (t506.length : Int) then (if (rd t506 (rd l3 x37_2)) < 0 then (some (false, 0)) else (feed_IsOrder.l0 k2 (rd t506 (rd l3 x37_2)) l3 (l3.length : Int) (wrap64 (x37_2 + 1)) t492 l0_1 l0_2 l2)) else (none)) else (none)) = some (r1, r2) := H
          have A23 := Aside0.mk A230
          clear A230
          by_cases c24 : 0 ≤ (rd l3 x37_2)
          ·
           rw [if_pos c24] at H
           have c24b0 : decide (0 ≤ (rd l3 x37_2)) = true := decide_eq_true c24
           clear c24
           by_cases c25 : (rd l3 x37_2) < (t506.length : Int)
           ·
            rw [if_pos c25] at H
            have c25b0 : decide ((rd l3 x37_2) < (t506.length : Int)) = true := decide_eq_true c25
            clear c25
            by_cases c26 : (rd t506 (rd l3 x37_2)) < 0
            ·
             rw [if_pos c26] at H
             have c26b0 : decide ((rd t506 (rd l3 x37_2)) < 0) = true := decide_eq_true c26
             clear c26
             simp only [Option.some.injEq, Prod.mk.injEq] at H
             obtain ⟨rfl, rfl⟩ := H
             have p505 : 0 ≤ (x37_2 : Int) := of_decide_eq_true asz
             have q505 : x37_2 < (l3.length : Int) := of_decide_eq_true asz
             obtain ⟨ad505, e505, hx505_0⟩ := Kd.at_int HR3.out x37_2 p505 q505
             cases e505
             replace hx505_0 := (HB.out.cell (World.block_lt_of_cell? w _ hx505_0)).trans hx505_0
             replace p505 := eq_true p505
             replace q505 := eq_true q505
             have hnb27 := NB503_491.out
             have hnc27 := NB491_503.out
             have hcz28_0 := blkc BK503.out 0 (.int .i64 t492) rfl
             have hcz28_1 := blkc BK503.out 1 (.slice A0_1 l0_1.length c0_1) rfl
             have hcz28_2 := blkc BK503.out 2 (.slice A0_2 l0_2.length c0_2) rfl
             have hcz28_3 := blkc BK503.out 3 (.slice A2 l2.length c2) rfl
             have hfz28_0 := blk_frozen BK503.out 0
             have hfz28_1 := blk_frozen BK503.out 1
             have hfz28_2 := blk_frozen BK503.out 2
             have hfz28_3 := blk_frozen BK503.out 3
             go_wp2_with (first | ((with_reducible refine gate_callee (f := 71) rfl ?_); refine goesL_ (some 43) rfl rfl Tryd.func71 (by kernel_rfl) rfl #[.agg #[.int .i64 t492, .slice A0_1 l0_1.length c0_1, .slice A0_2 l0_2.length c0_2, .slice A2 l2.length c2], .int .i64 x1_2] rfl mapz ?_; (with_reducible refine (feed_rule_steps.calls k2 t492 _ _ l0_1 _ _ l0_2 _ _ l2 x1_2 t506 _ ?side1 ?side2 ?side3 ?side4 ?side5 ?side6 ?sideT A23.out).mono ?_); (case sideT => first | exact HT.out | exact Tab.Tabs.below HT.out bel | (with_reducible repeat (first | exact HT.out | apply Tab.Tabs.alloc | apply Tab.Tabs.drewN | apply Tab.Tabs.drew))); (case side1 => exact cbz HR0_1); (case side2 => exact HC0_1.out); (case side3 => exact cbz HR0_2); (case side4 => exact HC0_2.out); (case side5 => exact cbz HR2); (case side6 => exact HC2.out); rintro e w29 ⟨v507, rfl, ho0, hb⟩; refine ⟨_, rfl, ?_⟩; have n0_ := Aside0.mk (Kd.R_lower ho0 (below_size bel)); have n1_ := Aside0.mk (blk_below (g := gb491) blkz hb); have n2_ := Aside0.mk (blk_below (g := gb503) blkz hb); have n3_ := Aside0.mk (below_step bel hb); clear BK491; clear BK503; clear HB; have HO508 := n0_; have BK491 := n1_; have BK503 := n2_; have HB := n3_; clear n0_ n1_ n2_ n3_; (try clear hb); (try clear hb2); (try clear hk); (try clear hi); (try clear ho0); obtain ⟨Ao30, co30, eo30⟩ := Kd.R_slice HO508.out; subst eo30; have p509 : 0 ≤ ((rd l3 x37_2) : Int) := of_decide_eq_true asz; have q509 : (rd l3 x37_2) < (t506.length : Int) := of_decide_eq_true asz; obtain ⟨ad509, e509, hx509_0⟩ := Kd.at_int (Kd.R_reads' HO508.out).2.2 (rd l3 x37_2) p509 q509; cases e509; replace p509 := eq_true p509; replace q509 := eq_true q509))
             go_ret2
             exact ⟨by first | rfl | (simp [errW_none, errW_some] <;> rfl) | (simp [*, errW_none, errW_some] <;> rfl), by repeat (first | (with_reducible first | exact HB.out | apply below_alloc | apply pw_below_drewN | apply below_drew1 | refine below_set ?_ GE491.out | refine below_set ?_ GE503.out) | exact HB.out)⟩
            ·
             rw [if_neg c26] at H
             have c26b0 : decide ((rd t506 (rd l3 x37_2)) < 0) = false := decide_eq_false c26
             clear c26
             have H' := Aside0.mk H
             clear H
             have p505 : 0 ≤ (x37_2 : Int) := of_decide_eq_true asz
             have q505 : x37_2 < (l3.length : Int) := of_decide_eq_true asz
             obtain ⟨ad505, e505, hx505_0⟩ := Kd.at_int HR3.out x37_2 p505 q505
             cases e505
             replace hx505_0 := (HB.out.cell (World.block_lt_of_cell? w _ hx505_0)).trans hx505_0
             replace p505 := eq_true p505
             replace q505 := eq_true q505
             have hnb31 := NB503_491.out
             have hnc31 := NB491_503.out
             have hcz32_0 := blkc BK503.out 0 (.int .i64 t492) rfl
             have hcz32_1 := blkc BK503.out 1 (.slice A0_1 l0_1.length c0_1) rfl
             have hcz32_2 := blkc BK503.out 2 (.slice A0_2 l0_2.length c0_2) rfl
             have hcz32_3 := blkc BK503.out 3 (.slice A2 l2.length c2) rfl
             have hfz32_0 := blk_frozen BK503.out 0
             have hfz32_1 := blk_frozen BK503.out 1
             have hfz32_2 := blk_frozen BK503.out 2
             have hfz32_3 := blk_frozen BK503.out 3
             go_wp2_with (first | ((with_reducible refine gate_callee (f := 71) rfl ?_); refine goesL_ (some 43) rfl rfl Tryd.func71 (by kernel_rfl) rfl #[.agg #[.int .i64 t492, .slice A0_1 l0_1.length c0_1, .slice A0_2 l0_2.length c0_2, .slice A2 l2.length c2], .int .i64 x1_2] rfl mapz ?_; (with_reducible refine (feed_rule_steps.calls k2 t492 _ _ l0_1 _ _ l0_2 _ _ l2 x1_2 t506 _ ?side1 ?side2 ?side3 ?side4 ?side5 ?side6 ?sideT A23.out).mono ?_); (case sideT => first | exact HT.out | exact Tab.Tabs.below HT.out bel | (with_reducible repeat (first | exact HT.out | apply Tab.Tabs.alloc | apply Tab.Tabs.drewN | apply Tab.Tabs.drew))); (case side1 => exact cbz HR0_1); (case side2 => exact HC0_1.out); (case side3 => exact cbz HR0_2); (case side4 => exact HC0_2.out); (case side5 => exact cbz HR2); (case side6 => exact HC2.out); rintro e w33 ⟨v507, rfl, ho0, hb⟩; refine ⟨_, rfl, ?_⟩; have n0_ := Aside0.mk (Kd.R_lower ho0 (below_size bel)); have n1_ := Aside0.mk (blk_below (g := gb491) blkz hb); have n2_ := Aside0.mk (blk_below (g := gb503) blkz hb); have n3_ := Aside0.mk (below_step bel hb); clear BK491; clear BK503; clear HB; have HO508 := n0_; have BK491 := n1_; have BK503 := n2_; have HB := n3_; clear n0_ n1_ n2_ n3_; (try clear hb); (try clear hb2); (try clear hk); (try clear hi); (try clear ho0); obtain ⟨Ao34, co34, eo34⟩ := Kd.R_slice HO508.out; subst eo34; have p509 : 0 ≤ ((rd l3 x37_2) : Int) := of_decide_eq_true asz; have q509 : (rd l3 x37_2) < (t506.length : Int) := of_decide_eq_true asz; obtain ⟨ad509, e509, hx509_0⟩ := Kd.at_int (Kd.R_reads' HO508.out).2.2 (rd l3 x37_2) p509 q509; cases e509; replace p509 := eq_true p509; replace q509 := eq_true q509))
             go_roundg k2
             case measure => have := HJ5.out; have := HK2.out; omega
             case rel => exact ⟨(rd t506 (rd l3 x37_2)), (wrap64 (x37_2 + 1)), rsz, rsz, H', ⟨by have := HJ5.out; have := HK2.out; omega⟩, ⟨by (with_reducible repeat (first | refine blk_drewN ?_ _ | refine blk_drew ?_ | refine blk_alloc ?_ _)); exact BK491.out⟩, ⟨by (with_reducible repeat (first | refine blk_drewN ?_ _ | refine blk_drew ?_ | refine blk_alloc ?_ _)); exact BK503.out⟩, ⟨by repeat (first | (with_reducible first | exact HB.out | apply below_alloc | apply pw_below_drewN | apply below_drew1 | refine below_set ?_ GE491.out | refine below_set ?_ GE503.out) | exact HB.out)⟩⟩
           ·
            rw [if_neg c25] at H
            exact absurd H (by simp)
          ·
           rw [if_neg c24] at H
           exact absurd H (by simp)
         ·
          rw [if_neg c22] at H
          exact absurd H (by simp)
        ·
         rw [if_neg c21] at H
         exact absurd H (by simp)
       ·
        rw [if_neg c20] at H
        have c20b0 : decide (x37_2 < (l3.length : Int)) = false := decide_eq_false c20
        clear c20
        simp only [Option.some.injEq, Prod.mk.injEq] at H
        obtain ⟨rfl, rfl⟩ := H
        go_wp2
        go_ret2
        exact ⟨by first | rfl | (simp [errW_none, errW_some] <;> rfl) | (simp [*, errW_none, errW_some] <;> rfl), by repeat (first | (with_reducible first | exact HB.out | apply below_alloc | apply pw_below_drewN | apply below_drew1 | refine below_set ?_ GE491.out | refine below_set ?_ GE503.out) | exact HB.out)⟩
    ·
     rw [if_neg c19] at H
     have c19b0 : (t502 == 0) = false := beq_eq_false_iff_ne.mpr c19
     have c19b1 : (t502 != 0) = true := bne_iff_ne.mpr c19
     simp only [Option.some.injEq, Prod.mk.injEq] at H
     obtain ⟨rfl, rfl⟩ := H
     go_wp2
     go_ret2
     exact ⟨by first | rfl | (simp [errW_none, errW_some] <;> rfl) | (simp [*, errW_none, errW_some] <;> rfl), by repeat (first | (with_reducible first | exact HB.out | apply below_alloc | apply pw_below_drewN | apply below_drew1 | refine below_set ?_ GE491.out | refine below_set ?_ GE503.out) | exact HB.out)⟩

end Go.Proofs.YtoilhnmdemnknaaDoor.XFeed

-- Written by wip/xprint.py of this repo, over the kit's print.py: out of the translation; the oracles in it are by hand. Not trusted: Lean checks it.
namespace Go.Proofs.YtoilhnmdemnknaaDoor.XFeed
open Go.RowKit Go.Proofs.YtoilhnmdemnknaaDoorW.PrintWords Go.Proofs.YtoilhnmdemnknaaDoorW.PrintLast Go.Proofs.YtoilhnmdemnknaaDoorW.PrintMore
attribute [local go_sem] max2_int min2_int max_two min_two max_three min_three max_four min_four   -- for this text's walks alone
set_option linter.unusedVariables false
set_option linter.unusedSimpArgs false

/-! ### dropperref05_IsState: function 76 -/
def dropperref05_IsState.f (a0_0 : Int) (l0_1 : List (S69)) (l0_2 : List (S71)) (a1 : Int) : Option (Bool) := if a1 ≥ 0 then (some (decide (a1 < (shl .i64 1 (l0_1.length : Int))))) else (some false)
set_option maxHeartbeats 8000000 in
set_option maxRecDepth 100000 in
theorem dropperref05_IsState.calls (a0_0 : Int) (A0_1 : Option Addr) (c0_1 : Nat) (l0_1 : List (S69)) (A0_2 : Option Addr) (c0_2 : Nat) (l0_2 : List (S71)) (a1 : Int) (r : Bool) (w : World) (hr0_1 : Kd.C k69 w A0_1 l0_1.length l0_1) (hc0_1 : l0_1.length ≤ c0_1) (hr0_2 : Kd.C k71 w A0_2 l0_2.length l0_2) (hc0_2 : l0_2.length ≤ c0_2) (h : dropperref05_IsState.f a0_0 l0_1 l0_2 a1 = some r) :
  Calls Tryd.prog 76 #[.agg #[.int .i64 a0_0, .slice A0_1 l0_1.length c0_1, .slice A0_2 l0_2.length c0_2], .int .i64 a1] w fun e w' => e = .returned (.bool r) ∧ Below w.heap.size w w' := by
 have hu25 := Tryd.underlying25
 have HR0_1 := Aside0.mk hr0_1
 have HC0_1 := Aside0.mk hc0_1
 clear hr0_1 hc0_1
 have HR0_2 := Aside0.mk hr0_2
 have HC0_2 := Aside0.mk hc0_2
 clear hr0_2 hc0_2
 have HB := Aside0.mk (Below.refl w.heap.size w)
 have H : (if a1 ≥ 0 then (some (decide (a1 < (shl .i64 1 (l0_1.length : Int))))) else (some false)) = some r := h
 clear h
 by_cases c3 : a1 ≥ 0
 ·
  rw [if_pos c3] at H
  have c3b0 : decide (0 ≤ a1) = true := decide_eq_true c3
  clear c3
  obtain ⟨ji4, hji4⟩ : ∃ j_ : Int, (shl .i64 1 (l0_1.length : Int)) = j_ := ⟨_, rfl⟩
  replace H : (some (decide (a1 < (ji4)))) = some r := by first | (rw [hji4] at H; exact H) | (simp only [hji4] at H ⊢; exact H)
  have hji4_ : (IntKind.i64.wrap (1 * 2 ^ min (l0_1.length : Int).toNat 64)) = ji4 := hji4
  have hji4z : (l0_1.length : Int) ≤ 64 → (IntKind.i64.wrap (1 * 2 ^ (l0_1.length : Int).toNat)) = ji4 := shl_small hji4
  have hji4p : (IntKind.i64.wrap (1 * 2 ^ min l0_1.length 64)) = ji4 := hji4_
  have hji4q : (l0_1.length : Int) ≤ 64 → (IntKind.i64.wrap (1 * 2 ^ l0_1.length)) = ji4 := hji4z
  have hji4r : (IntKind.i64.wrap (2 ^ min l0_1.length 64)) = ji4 := by have h_ := hji4p; rw [Int.one_mul] at h_; exact h_
  have hji4s : (l0_1.length : Int) ≤ 64 → (IntKind.i64.wrap (2 ^ l0_1.length)) = ji4 := fun hle_ => by have h_ := hji4q hle_; rw [Int.one_mul] at h_; exact h_
  have hji4u : (IntKind.i64.wrap (2 ^ min (l0_1.length : Int).toNat 64)) = ji4 := by have h_ := hji4_; rw [Int.one_mul] at h_; exact h_
  have hji4v : (l0_1.length : Int) ≤ 64 → (IntKind.i64.wrap (2 ^ (l0_1.length : Int).toNat)) = ji4 := fun hle_ => by have h_ := hji4z hle_; rw [Int.one_mul] at h_; exact h_
  have hji4y : (wrap64 (1 * 2 ^ min (l0_1.length : Int).toNat 64)) = ji4 := (i64_w _).symm.trans hji4_
  have hji4x : (l0_1.length : Int) ≤ 64 → (wrap64 (1 * 2 ^ (l0_1.length : Int).toNat)) = ji4 := fun h_ => (i64_w _).symm.trans (hji4z h_)
  obtain rfl := Option.some.inj H
  go_enter Tryd.func76, Tryd.ntmps76
  go_wp2_with (first | ((with_reducible refine gate_dst (N := 2) rfl ?_); (try (refine gate_guard (by rfl) ?_; dsimp only)); refine box_event ?hg (N := 2) ?hd (cs := #[.int .i64 a0_0, .slice A0_1 l0_1.length c0_1, .slice A0_2 l0_2.length c0_2]) (t := 25) ?hr ?_; (case hd => rfl); (case hg => rfl); (case hr => first | (go_simp; done) | (go_simp; rfl)); intro gb243 hg w5 hbox hb; have n0_ := Aside0.mk (below_step bel hb); have n1_ := Aside0.mk (hbox); have n2_ := Aside0.mk ((by rw [hg]; exact (below_size bel) : w.heap.size ≤ gb243)); have n3_ := n2_; clear HB; have HB := n0_; have BK243 := n1_; have GW243 := n2_; have GE243 := n3_; clear n0_ n1_ n2_ n3_; clear hb hbox hg; have hcz6_0 := blkc BK243.out 0 (.int .i64 a0_0) rfl; have hcz6_1 := blkc BK243.out 1 (.slice A0_1 l0_1.length c0_1) rfl; have hcz6_2 := blkc BK243.out 2 (.slice A0_2 l0_2.length c0_2) rfl; have hfz6_0 := blk_frozen BK243.out 0; have hfz6_1 := blk_frozen BK243.out 1; have hfz6_2 := blk_frozen BK243.out 2))
  go_ret
  exact ⟨by first | rfl | (simp [errW_none, errW_some] <;> rfl) | (simp only [← hji4]; first | rfl | (simp [errW_none, errW_some] <;> rfl)) | (simp [*, errW_none, errW_some] <;> rfl), by repeat (first | (with_reducible first | exact HB.out | apply below_alloc | apply pw_below_drewN | apply below_drew1 | refine below_set ?_ GE243.out) | exact HB.out)⟩
 ·
  rw [if_neg c3] at H
  have c3b0 : decide (0 ≤ a1) = false := decide_eq_false c3
  clear c3
  obtain rfl := Option.some.inj H
  go_enter Tryd.func76, Tryd.ntmps76
  go_wp2_with (first | ((with_reducible refine gate_dst (N := 2) rfl ?_); (try (refine gate_guard (by rfl) ?_; dsimp only)); refine box_event ?hg (N := 2) ?hd (cs := #[.int .i64 a0_0, .slice A0_1 l0_1.length c0_1, .slice A0_2 l0_2.length c0_2]) (t := 25) ?hr ?_; (case hd => rfl); (case hg => rfl); (case hr => first | (go_simp; done) | (go_simp; rfl)); intro gb243 hg w7 hbox hb; have n0_ := Aside0.mk (below_step bel hb); have n1_ := Aside0.mk (hbox); have n2_ := Aside0.mk ((by rw [hg]; exact (below_size bel) : w.heap.size ≤ gb243)); have n3_ := n2_; clear HB; have HB := n0_; have BK243 := n1_; have GW243 := n2_; have GE243 := n3_; clear n0_ n1_ n2_ n3_; clear hb hbox hg))
  go_ret
  exact ⟨by first | rfl | (simp [errW_none, errW_some] <;> rfl) | (simp [*, errW_none, errW_some] <;> rfl), by repeat (first | (with_reducible first | exact HB.out | apply below_alloc | apply pw_below_drewN | apply below_drew1 | refine below_set ?_ GE243.out) | exact HB.out)⟩

end Go.Proofs.YtoilhnmdemnknaaDoor.XFeed

-- Written by wip/xprint.py of this repo, over the kit's print.py: out of the translation; the oracles in it are by hand. Not trusted: Lean checks it.
namespace Go.Proofs.YtoilhnmdemnknaaDoor.XFeed
open Go.RowKit Go.Proofs.YtoilhnmdemnknaaDoorW.PrintWords Go.Proofs.YtoilhnmdemnknaaDoorW.PrintLast Go.Proofs.YtoilhnmdemnknaaDoorW.PrintMore
attribute [local go_sem] max2_int min2_int max_two min_two max_three min_three max_four min_four   -- for this text's walks alone
set_option linter.unusedVariables false
set_option linter.unusedSimpArgs false

/-! ### dropperref05_closed: function 61 -/
def dropperref05_closed.f (a0 : Int) (a1 : Int) : Option (Bool) := if 0 ≤ a1 then (some ((Go.bits .and .i64 (shr .i64 a0 a1) 1) == 1)) else (none)
set_option maxHeartbeats 8000000 in
set_option maxRecDepth 100000 in
theorem dropperref05_closed.calls (a0 : Int) (a1 : Int) (r : Bool) (w : World) (h : dropperref05_closed.f a0 a1 = some r) :
  Calls Tryd.prog 61 #[.int .i64 a0, .int .i64 a1] w fun e w' => e = .returned (.bool r) ∧ Drawn0 w w' := by
 have H : (if 0 ≤ a1 then (some ((Go.bits .and .i64 (shr .i64 a0 a1) 1) == 1)) else (none)) = some r := h
 clear h
 by_cases c3 : 0 ≤ a1
 ·
  rw [if_pos c3] at H
  have c3b0 := eq_true c3
  have c3b1 : decide (0 ≤ a1) = true := decide_eq_true c3
  clear c3
  obtain ⟨ji4, hji4⟩ : ∃ j_ : Int, (shr .i64 a0 a1) = j_ := ⟨_, rfl⟩
  replace H : (some ((Go.bits .and .i64 (ji4) 1) == 1)) = some r := by first | (rw [hji4] at H; exact H) | (simp only [hji4] at H ⊢; exact H)
  have hji4_ : (a0 / 2 ^ min a1.toNat 64) = ji4 := hji4
  have hji4z : a1 ≤ 64 → (a0 / 2 ^ a1.toNat) = ji4 := shr_small hji4
  obtain rfl := Option.some.inj H
  go_enter Tryd.func61, Tryd.ntmps61
  go_wp2
  go_ret
  exact ⟨by first | rfl | (simp; done) | (simp only [← hji4] <;> (first | rfl | simp)) | (simp [*]; done), drz⟩
 ·
  rw [if_neg c3] at H
  exact absurd H (by simp)

end Go.Proofs.YtoilhnmdemnknaaDoor.XFeed

-- Written by wip/xprint.py of this repo, over the kit's print.py: out of the translation; the oracles in it are by hand. Not trusted: Lean checks it.
namespace Go.Proofs.YtoilhnmdemnknaaDoor.XFeed
open Go.RowKit Go.Proofs.YtoilhnmdemnknaaDoorW.PrintWords Go.Proofs.YtoilhnmdemnknaaDoorW.PrintLast Go.Proofs.YtoilhnmdemnknaaDoorW.PrintMore
attribute [local go_sem] max2_int min2_int max_two min_two max_three min_three max_four min_four   -- for this text's walks alone
set_option linter.unusedVariables false
set_option linter.unusedSimpArgs false

/-! ### dropperref05_from: function 67 -/
mutual
def dropperref05_from.l0 : Nat → Int → List Bool → Bool → Int → List (S69) → List (S71) → Option (List Bool)
 | 0, _, _, _, _, _, _ => none
 | k + 1, x1, x7, x8, x248000, x248001, x248002 => if x8 = true then (dropperref05_from.l1 k x1 x7 false 0 x248000 x248001 x248002) else (some x7)
def dropperref05_from.l1 : Nat → Int → List Bool → Bool → Int → Int → List (S69) → List (S71) → Option (List Bool)
 | 0, _, _, _, _, _, _, _ => none
 | k + 1, x1, x7, x8, x9, x248000, x248001, x248002 => if x9 < (x248001.length : Int) then (if 0 ≤ x9 then ((dropperref05_closed.f x1 x9).bind fun t254 => (if t254 = true then (if 0 ≤ ((rd_T69 x248001 x9).f0) then (if ((rd_T69 x248001 x9).f0) < (x7.length : Int) then (if 0 ≤ ((rd_T69 x248001 x9).f1) then (if ((rd_T69 x248001 x9).f1) < (x7.length : Int) then (if ((rdOf false x7 ((rd_T69 x248001 x9).f0)) != (rdOf false x7 ((rd_T69 x248001 x9).f1))) = true then (dropperref05_from.l1 k x1 ((x7.set (((rd_T69 x248001 x9).f0) : Int).toNat true).set (((rd_T69 x248001 x9).f1) : Int).toNat true) true (wrap64 (x9 + 1)) x248000 x248001 x248002) else (dropperref05_from.l1 k x1 x7 x8 (wrap64 (x9 + 1)) x248000 x248001 x248002)) else (none)) else (none)) else (none)) else (none)) else (dropperref05_from.l1 k x1 x7 x8 (wrap64 (x9 + 1)) x248000 x248001 x248002))) else (none)) else (dropperref05_from.l0 k x1 x7 x8 x248000 x248001 x248002)
end
def dropperref05_from.f (k : Nat) (a0_0 : Int) (l0_1 : List (S69)) (l0_2 : List (S71)) (a1 : Int) (a2 : Int) : Option (List Bool) := if 0 ≤ a0_0 then (if (a0_0 : Int).toNat ≤ 281474976710656 then ((some (List.replicate (a0_0 : Int).toNat false : List Bool)).bind fun y248 => (if 0 ≤ a2 then (if a2 < (y248.length : Int) then (dropperref05_from.l0 k a1 (y248.set (a2 : Int).toNat true) true a0_0 l0_1 l0_2) else (none)) else (none))) else (none)) else (none)
theorem dropperref05_from.mono_l : ∀ k, (∀ y0 y1 y2 y3 y4 y5, LeO (dropperref05_from.l0 k y0 y1 y2 y3 y4 y5) (dropperref05_from.l0 (k + 1) y0 y1 y2 y3 y4 y5)) ∧ (∀ y0 y1 y2 y3 y4 y5 y6, LeO (dropperref05_from.l1 k y0 y1 y2 y3 y4 y5 y6) (dropperref05_from.l1 (k + 1) y0 y1 y2 y3 y4 y5 y6))
 | 0 => ⟨fun _ _ _ _ _ _ r h => by simp [dropperref05_from.l0] at h, fun _ _ _ _ _ _ _ r h => by simp [dropperref05_from.l1] at h⟩
 | k + 1 => by
  obtain ⟨ih0, ih1⟩ := dropperref05_from.mono_l k
  refine ⟨?_, ?_⟩
  ·
   intro y0 y1 y2 y3 y4 y5
   unfold dropperref05_from.l0
   repeat' first
   | (with_reducible exact ih0 _ _ _ _ _ _)
   | (with_reducible exact ih1 _ _ _ _ _ _ _)
   | (with_reducible exact LeO.refl _)
   | (with_reducible exact LeO.none _)
   | (with_reducible refine LeO.ite ?_ ?_)
   | (with_reducible refine LeO.bind ?_ (fun _ => ?_))
   | exact ih0 _ _ _ _ _ _
   | exact ih1 _ _ _ _ _ _ _
   | exact LeO.none _
   | refine LeO.ite ?_ ?_
   | refine LeO.bind ?_ (fun _ => ?_)
  ·
   intro y0 y1 y2 y3 y4 y5 y6
   unfold dropperref05_from.l1
   repeat' first
   | (with_reducible exact ih0 _ _ _ _ _ _)
   | (with_reducible exact ih1 _ _ _ _ _ _ _)
   | (with_reducible exact LeO.refl _)
   | (with_reducible exact LeO.none _)
   | (with_reducible refine LeO.ite ?_ ?_)
   | (with_reducible refine LeO.bind ?_ (fun _ => ?_))
   | exact ih0 _ _ _ _ _ _
   | exact ih1 _ _ _ _ _ _ _
   | exact LeO.none _
   | refine LeO.ite ?_ ?_
   | refine LeO.bind ?_ (fun _ => ?_)
theorem dropperref05_from.mono : ∀ a0 a1 a2 a3 a4 k, LeO (dropperref05_from.f k a0 a1 a2 a3 a4) (dropperref05_from.f (k + 1) a0 a1 a2 a3 a4) := by
 intro a0 a1 a2 a3 a4 k
 obtain ⟨ih0, ih1⟩ := dropperref05_from.mono_l k
 unfold dropperref05_from.f
 repeat' first
   | (with_reducible exact ih0 _ _ _ _ _ _)
   | (with_reducible exact ih1 _ _ _ _ _ _ _)
   | (with_reducible exact LeO.refl _)
   | (with_reducible exact LeO.none _)
   | (with_reducible refine LeO.ite ?_ ?_)
   | (with_reducible refine LeO.bind ?_ (fun _ => ?_))
   | exact ih0 _ _ _ _ _ _
   | exact ih1 _ _ _ _ _ _ _
   | exact LeO.none _
   | refine LeO.ite ?_ ?_
   | refine LeO.bind ?_ (fun _ => ?_)
def dropperref05_from.T10 : Bool × List (List Nat × List Nat) := (true, [([], []), ([], []), ([0, 1], [0, 1]), ([2, 2], [2]), ([3], [3]), ([3], [3]), ([5, 3], [3, 5]), ([4, 6, 3], [3, 4, 6]), ([7, 3], [3, 7]), ([3], [3]), ([3], [3]), ([10, 3], [3, 10]), ([9, 11, 3], [3, 9, 11]), ([12, 3], [3, 12]), ([8, 13, 3], [3, 8, 13]), ([3, 14], [3, 14])])
def dropperref05_from.B10 : List Nat := [0, 0, 3, 7, 15, 15, 47, 127, 255, 15, 15, 1039, 3599, 7695, 16383, 32767]
theorem dropperref05_from.tab10 : rtab .any (opsOf Tryd.f67 10) = dropperref05_from.T10 := by kernel_rfl
theorem dropperref05_from.bits10 : waitsOk dropperref05_from.T10.2 dropperref05_from.B10 = true := by kernel_rfl
def dropperref05_from.T11 : Bool × List (List Nat × List Nat) := (true, [([], []), ([], []), ([1], [1]), ([], []), ([], []), ([4], [4]), ([0, 2, 0, 1, 2], [0, 2]), ([6, 0, 1, 2], [6]), ([3, 5, 0, 1, 2, 3, 4, 5, 6, 7], [3, 5]), ([8, 7, 0, 1, 2, 3, 4, 5, 6, 7], [8]), ([9, 0, 1, 2, 3, 4, 5, 6, 7, 8, 9], [])])
def dropperref05_from.B11 : List Nat := [0, 0, 2, 0, 0, 16, 7, 71, 255, 511, 1023]
theorem dropperref05_from.tab11 : rtab .any (opsOf Tryd.f67 11) = dropperref05_from.T11 := by kernel_rfl
theorem dropperref05_from.bits11 : waitsOk dropperref05_from.T11.2 dropperref05_from.B11 = true := by kernel_rfl
set_option maxHeartbeats 8000000 in
set_option maxRecDepth 100000 in
theorem dropperref05_from.calls (k : Nat) (a0_0 : Int) (A0_1 : Option Addr) (c0_1 : Nat) (l0_1 : List (S69)) (A0_2 : Option Addr) (c0_2 : Nat) (l0_2 : List (S71)) (a1 : Int) (a2 : Int) (r : List Bool) (w : World) (hr0_1 : Kd.C k69 w A0_1 l0_1.length l0_1) (hc0_1 : l0_1.length ≤ c0_1) (hr0_2 : Kd.C k71 w A0_2 l0_2.length l0_2) (hc0_2 : l0_2.length ≤ c0_2) (h : dropperref05_from.f k a0_0 l0_1 l0_2 a1 a2 = some r) :
  Calls Tryd.prog 67 #[.agg #[.int .i64 a0_0, .slice A0_1 l0_1.length c0_1, .slice A0_2 l0_2.length c0_2], .int .i64 a1, .int .i64 a2] w fun e w' => ∃ v0_ : Value, e = .returned (v0_) ∧ Kd.R Kd.bool 4 w' w.heap.size (fun _ => True) v0_ r ∧ Below w.heap.size w w' := by
 have hu25 := Tryd.underlying25
 have hu69 := Tryd.underlying69
 have HR0_1 := Aside0.mk hr0_1
 have HC0_1 := Aside0.mk hc0_1
 clear hr0_1 hc0_1
 have HR0_2 := Aside0.mk hr0_2
 have HC0_2 := Aside0.mk hc0_2
 clear hr0_2 hc0_2
 have HB := Aside0.mk (Below.refl w.heap.size w)
 have H : (if 0 ≤ a0_0 then (if (a0_0 : Int).toNat ≤ 281474976710656 then ((some (List.replicate (a0_0 : Int).toNat false : List Bool)).bind fun y248 => (if 0 ≤ a2 then (if a2 < (y248.length : Int) then (dropperref05_from.l0 k a1 (y248.set (a2 : Int).toNat true) true a0_0 l0_1 l0_2) else (none)) else (none))) else (none)) else (none)) = some r := h
 clear h
 by_cases c4 : 0 ≤ a0_0
 ·
  rw [if_pos c4] at H
  have c4b0 := eq_true c4
  have c4b1 : decide (0 ≤ a0_0) = true := decide_eq_true c4
  clear c4
  by_cases c5 : (a0_0 : Int).toNat ≤ 281474976710656
  ·
   rw [if_pos c5] at H
   have c5b0 := eq_true c5
   have c5b1 : decide ((a0_0 : Int).toNat ≤ 281474976710656) = true := decide_eq_true c5
   clear c5
   obtain ⟨y248, hy248⟩ : ∃ y_ : List Bool, y_ = (List.replicate (a0_0 : Int).toNat false) := ⟨_, rfl⟩
   replace H : (if 0 ≤ a2 then (if a2 < (y248.length : Int) then (dropperref05_from.l0 k a1 (y248.set (a2 : Int).toNat true) true a0_0 l0_1 l0_2) else (none)) else (none)) = some r := by first | (rw [hy248]; with_reducible exact H) | (have H2_ := (Option.bind_some _ _).symm.trans H; rw [hy248]; with_reducible exact H2_) | (have H2_ := (Option.bind_some _ _).symm.trans H; with_reducible exact H2_) | with_reducible exact H | (rw [hy248]; exact H) | exact H
   have Ny248 := Aside0.mk hy248
   clear hy248
   by_cases c6 : 0 ≤ a2
   ·
    rw [if_pos c6] at H
    have c6b0 : decide (0 ≤ a2) = true := decide_eq_true c6
    clear c6
    by_cases c7 : a2 < (y248.length : Int)
    ·
     rw [if_pos c7] at H
     have c7b0 : decide (a2 < (y248.length : Int)) = true := decide_eq_true c7
     clear c7
     obtain ⟨y251, hy251⟩ : ∃ y_ : List Bool, y_ = (y248.set (a2 : Int).toNat true) := ⟨_, rfl⟩
     replace H : (dropperref05_from.l0 k a1 y251 true a0_0 l0_1 l0_2) = some r := by first | (rw [hy251]; with_reducible exact H) | (have H2_ := (Option.bind_some _ _).symm.trans H; rw [hy251]; with_reducible exact H2_) | (have H2_ := (Option.bind_some _ _).symm.trans H; with_reducible exact H2_) | with_reducible exact H | (rw [hy251]; exact H) | exact H
     have Ny251 := Aside0.mk hy251
     clear hy251
     have H' := Aside0.mk H
     clear H
     go_enter Tryd.func67, Tryd.ntmps67
     go_wp2_with (first | ((with_reducible refine gate_dst (N := 3) rfl ?_); refine box_event ?hg (N := 3) ?hd (cs := #[.int .i64 a0_0, .slice A0_1 l0_1.length c0_1, .slice A0_2 l0_2.length c0_2]) (t := 25) ?hr ?_; (case hd => rfl); (case hg => rfl); (case hr => first | (go_simp; done) | (go_simp; rfl)); intro gb247 hg w9 hbox hb; have n0_ := Aside0.mk (below_step bel hb); have n1_ := Aside0.mk (hbox); have n2_ := Aside0.mk ((by rw [hg]; exact (below_size bel) : w.heap.size ≤ gb247)); have n3_ := n2_; clear HB; have HB := n0_; have BK247 := n1_; have GW247 := n2_; have GE247 := n3_; clear n0_ n1_ n2_ n3_; clear hb hbox hg; have hcz10_0 := blkc BK247.out 0 (.int .i64 a0_0) rfl; have hcz10_1 := blkc BK247.out 1 (.slice A0_1 l0_1.length c0_1) rfl; have hcz10_2 := blkc BK247.out 2 (.slice A0_2 l0_2.length c0_2) rfl; have hfz10_0 := blk_frozen BK247.out 0; have hfz10_1 := blk_frozen BK247.out 1; have hfz10_2 := blk_frozen BK247.out 2) | ((with_reducible refine gate_dst (N := 13) rfl ?_); refine Kd.R_make Kd.bool _ 4 rfl (N := 13) rfl 92 _ _ rfl a0_0 rfl rfl Tryd.underlying92 (.bool false) 1 info4 rfl (by decide) (by omega) false (ok := fun _ => True) (okp := fun _ => True) rfl (fun _ hk => hk) trivial (of_decide_eq_true asz) (Nat.le_trans (Nat.mul_le_mul_right _ (of_decide_eq_true asz : a0_0.toNat ≤ 281474976710656)) (by omega)) (Below.refl _ _) (Nat.le_refl _) ?_; intro v249 w11 ho12 hb hg_ hnew_; clear hg_ hnew_; (first | rw [← Ny248.out] at ho12 | (simp only [Int.reduceToNat] at ho12; rw [← Ny248.out] at ho12)); have n0_ := Aside0.mk (Kd.R_lower ho12 (below_size bel)); have n1_ := Aside0.mk (blk_below (g := gb247) blkz hb); have n2_ := Aside0.mk (below_step bel hb); clear BK247; clear HB; have HO250 := n0_; have BK247 := n1_; have HB := n2_; clear n0_ n1_ n2_; clear hb ho12; have p8 : 0 ≤ (a2 : Int) := of_decide_eq_true asz; have q8 : (a2 : Int) < ((y248.length : Int) : Int) := of_decide_eq_true asz; obtain ⟨go8, co8, eo8, gb8, gl8, cl8, HG8⟩ := Kd.R_form HO250.out (by omega); (first | cases eo8 | (injection eo8 with ea_ en_ ec_; (first | subst ea_ | (injection ea_ with ea_; subst ea_)); subst ec_; clear en_)); have GB8 := Aside0.mk gb8; have GG8 := Aside0.mk HG8; clear gb8 gl8 HG8; obtain ⟨hx8_0, hf8_0⟩ := Kd.R_celln false HO250.out (a2 : Int) p8 q8; replace p8 := eq_true p8; replace q8 := eq_true q8; obtain ⟨hy13_, hz13_⟩ := Kd.R_celln false HO250.out (a2 : Int) (of_decide_eq_true asz) (of_decide_eq_true asz); have HP13 := Kd.R_putg HO250.out (a2 : Int) true) | ((with_reducible refine gate_store (t := 4) (p := 16) rfl ?_); refine store_event (t := 4) (p := 16) (v := ?vo_w14) (w1 := (w11.setCell ⟨go8, (a2 : Int).toNat, none⟩ (.bool true))) ?hg ?ho ?hn ?hr ?_; (case ho => rfl); (case hg => rfl); (case hn => rfl); (case hr => first | (go_simp; done) | (go_simp; rfl)); intro w14 hw; have hg : w11.grownBy w14 (some go8) := (by rw [hw]; exact HP13.2); have hp_ : Kd.R Kd.bool 4 w14 w.heap.size (fun _ => True) (.slice (some ⟨go8, 0, none⟩) y248.length co8) y251 := (by rw [hw, Ny251.out]; exact HP13.1); clear HP13; have n0_ := Aside0.mk (blk_grown (g := gb247) (o := .cells #[.int .i64 a0_0, .slice A0_1 l0_1.length c0_1, .slice A0_2 l0_2.length c0_2] 25 (0, 0)) blkz hg (Kd.R_ne HO250.out BK247.out (by decide))); have n1_ := Aside0.mk (hp_); have n2_ := Aside0.mk ((by rw [hw]; exact below_set (HB.out) GB8.out : Below w.heap.size w w14)); clear BK247; clear HO250; clear HB; have BK247 := n0_; have HO250 := n1_; have HB := n2_; clear n0_ n1_ n2_; clear hg hw hp_))
     go_loopg [8] k (fun kq v8 w' => ∃ (x7_1 : List Bool) (x8_1 : Bool), v8 = .bool x8_1 ∧ Aside0 (dropperref05_from.l0 kq a1 x7_1 x8_1 a0_0 l0_1 l0_2 = some r) ∧ Aside0 (kq ≤ k) ∧ Aside0 (Kd.R Kd.bool 4 w' w.heap.size (fun _ => True) (.slice (some ⟨go8, 0, none⟩) y248.length co8) x7_1) ∧ Aside0 (w'.heap[gb247]? = some (.cells #[.int .i64 a0_0, (.slice A0_1 l0_1.length c0_1), (.slice A0_2 l0_2.length c0_2)] 25 (0, 0))) ∧ Aside0 (Below w.heap.size w w'))
     case atStart => exact ⟨(y251), (true), rsz, H', ⟨Nat.le_refl _⟩, ⟨by (with_reducible repeat (first | apply Kd.R_alloc | apply Kd.R_drewN | apply Kd.R_drew)); exact HO250.out⟩, ⟨by (with_reducible repeat (first | refine blk_drewN ?_ _ | refine blk_drew ?_ | refine blk_alloc ?_ _)); exact BK247.out⟩, ⟨by repeat (first | (with_reducible first | exact HB.out | apply below_alloc | apply pw_below_drewN | apply below_drew1 | refine below_set ?_ GE247.out) | exact HB.out)⟩⟩
     case round =>
      clear H'
      try clear p2
      try clear c4
      try clear c4b0
      try clear c4b1
      try clear c5
      try clear c5b0
      try clear c5b1
      try clear c6
      try clear c6b0
      try clear c7
      try clear c7b0
      try clear p8
      try clear q8
      try clear hx8
      try clear hf8
      try clear hcz10_0
      try clear hcz10_1
      try clear hcz10_2
      try clear hfz10_0
      try clear hfz10_1
      try clear hfz10_2
      try clear hx8_0
      try clear p8
      try clear q8
      obtain ⟨x7_1, x8_1, rfl, HA, HK1, HO_7, BK247, HB⟩ := hrel
      have hl7_1 := (Kd.R_reads' HO_7.out).1
      rw [hl7_1] at HO_7
      (try simp only [hl7_1])
      (try simp only [hl7_1] at BK247)
      cases gk with
      | zero => exact absurd HA.out (by simp [dropperref05_from.l0])
      | succ k1 =>
       have H := HA.out
       clear HA
       simp only [dropperref05_from.l0] at H
       by_cases c15 : x8_1 = true
       ·
        subst c15
        have H1 : (dropperref05_from.l1 k1 a1 x7_1 false 0 a0_0 l0_1 l0_2) = some r := by rw [if_pos rfl] at H; exact H
        clear H
        have H := H1
        clear H1
        have H' := Aside0.mk H
        clear H
        go_wp2
        go_loopg [8, 9] k1 (fun kq v8 v9 w' => ∃ (x7_2 : List Bool) (x8_2 : Bool) (x9_2 : Int), v8 = .bool x8_2 ∧ v9 = .int .i64 x9_2 ∧ Aside0 (dropperref05_from.l1 kq a1 x7_2 x8_2 x9_2 a0_0 l0_1 l0_2 = some r) ∧ Aside0 (kq ≤ k1) ∧ Aside0 (Kd.R Kd.bool 4 w' w.heap.size (fun _ => True) (.slice (some ⟨go8, 0, none⟩) x7_1.length co8) x7_2) ∧ Aside0 (w'.heap[gb247]? = some (.cells #[.int .i64 a0_0, (.slice A0_1 l0_1.length c0_1), (.slice A0_2 l0_2.length c0_2)] 25 (0, 0))) ∧ Aside0 (Below w.heap.size w w'))
        case atStart => exact ⟨(x7_1), (false), (0), rsz, rsz, H', ⟨Nat.le_refl _⟩, ⟨by (try simp only [hl7_1]); (with_reducible repeat (first | apply Kd.R_alloc | apply Kd.R_drewN | apply Kd.R_drew)); exact HO_7.out⟩, ⟨by (try simp only [hl7_1]); (with_reducible repeat (first | refine blk_drewN ?_ _ | refine blk_drew ?_ | refine blk_alloc ?_ _)); exact BK247.out⟩, ⟨by repeat (first | (with_reducible first | exact HB.out | apply below_alloc | apply pw_below_drewN | apply below_drew1 | refine below_set ?_ GE247.out) | exact HB.out)⟩⟩
        case round =>
         clear H'
         try clear c1
         try clear p2
         try clear c4
         try clear c4b0
         try clear c4b1
         try clear c5
         try clear c5b0
         try clear c5b1
         try clear c6
         try clear c6b0
         try clear c7
         try clear c7b0
         try clear p8
         try clear q8
         try clear hx8
         try clear hf8
         try clear c15
         try clear hcz10_0
         try clear hcz10_1
         try clear hcz10_2
         try clear hfz10_0
         try clear hfz10_1
         try clear hfz10_2
         try clear hx8_0
         try clear p2
         try clear p8
         try clear q8
         obtain ⟨x7_2, x8_2, x9_2, rfl, rfl, HA, HK2, HO_7, BK247, HB⟩ := hrel
         have hl7_2 := (Kd.R_reads' HO_7.out).1
         rw [hl7_2] at HO_7
         (try simp only [hl7_2])
         (try simp only [hl7_2] at BK247)
         cases gk with
         | zero => exact absurd HA.out (by simp [dropperref05_from.l1])
         | succ k2 =>
          have H := HA.out
          clear HA
          simp only [dropperref05_from.l1] at H
          by_cases c16 : x9_2 < (l0_1.length : Int)
          ·
           rw [if_pos c16] at H
           have c16b0 : decide (x9_2 < (l0_1.length : Int)) = true := decide_eq_true c16
           try (have c16b0hl7_1 := c16b0; simp only [hl7_1] at c16b0hl7_1)
           try (have c16b0hl7_2 := c16b0; simp only [hl7_2] at c16b0hl7_2)
           clear c16
           by_cases c17 : 0 ≤ x9_2
           ·
            rw [if_pos c17] at H
            have c17b0 : decide (0 ≤ x9_2) = true := decide_eq_true c17
            clear c17
            replace H := Option.bind_eq_some_iff.mp H
            obtain ⟨t254, A180, H⟩ := H
            replace H : (if t254 = true then (if 0 ≤ ((rd_T69 l0_1 x9_2).f0) then (if ((rd_T69 l0_1 x9_2).f0) < (x7_2.length : Int) then (if 0 ≤ ((rd_T69 l0_1 x9_2).f1) then (if ((rd_T69 l0_1 x9_2).f1) < (x7_2.length : Int) then (if ((rdOf false x7_2 ((rd_T69 l0_1 x9_2).f0)) != (rdOf false x7_2 ((rd_T69 l0_1 x9_2).f1))) = true then (dropperref05_from.l1 k2 a1 ((x7_2.set (((rd_T69 l0_1 x9_2).f0) : Int).toNat true).set (((rd_T69 l0_1 x9_2).f1) : Int).toNat true) true (wrap64 (x9_2 + 1)) a0_0 l0_1 l0_2) else (dropperref05_from.l1 k2 a1 x7_2 x8_2 (wrap64 (x9_2 + 1)) a0_0 l0_1 l0_2)) else (none)) else (none)) else (none)) else (none)) else (dropperref05_from.l1 k2 a1 x7_2 x8_2 (wrap64 (x9_2 + 1)) a0_0 l0_1 l0_2)) = some r := H
            have A18 := Aside0.mk A180
            clear A180
            by_cases c19 : t254 = true
            ·
             subst c19
             have H1 : (if 0 ≤ ((rd_T69 l0_1 x9_2).f0) then (if ((rd_T69 l0_1 x9_2).f0) < (x7_2.length : Int) then (if 0 ≤ ((rd_T69 l0_1 x9_2).f1) then (if ((rd_T69 l0_1 x9_2).f1) < (x7_2.length : Int) then (if ((rdOf false x7_2 ((rd_T69 l0_1 x9_2).f0)) != (rdOf false x7_2 ((rd_T69 l0_1 x9_2).f1))) = true then (dropperref05_from.l1 k2 a1 ((x7_2.set (((rd_T69 l0_1 x9_2).f0) : Int).toNat true).set (((rd_T69 l0_1 x9_2).f1) : Int).toNat true) true (wrap64 (x9_2 + 1)) a0_0 l0_1 l0_2) else (dropperref05_from.l1 k2 a1 x7_2 x8_2 (wrap64 (x9_2 + 1)) a0_0 l0_1 l0_2)) else (none)) else (none)) else (none)) else (none)) = some r := by rw [if_pos rfl] at H; exact H
             clear H
             have H := H1
             clear H1
             by_cases c20 : 0 ≤ ((rd_T69 l0_1 x9_2).f0)
             ·
              rw [if_pos c20] at H
              have c20b0 : decide (0 ≤ ((rd_T69 l0_1 x9_2).f0)) = true := decide_eq_true c20
              clear c20
              by_cases c21 : ((rd_T69 l0_1 x9_2).f0) < (x7_2.length : Int)
              ·
               rw [if_pos c21] at H
               have c21b0 : decide (((rd_T69 l0_1 x9_2).f0) < (x7_2.length : Int)) = true := decide_eq_true c21
               try (have c21b0hl7_1 := c21b0; simp only [hl7_1] at c21b0hl7_1)
               try (have c21b0hl7_2 := c21b0; simp only [hl7_2] at c21b0hl7_2)
               clear c21
               by_cases c22 : 0 ≤ ((rd_T69 l0_1 x9_2).f1)
               ·
                rw [if_pos c22] at H
                have c22b0 : decide (0 ≤ ((rd_T69 l0_1 x9_2).f1)) = true := decide_eq_true c22
                clear c22
                by_cases c23 : ((rd_T69 l0_1 x9_2).f1) < (x7_2.length : Int)
                ·
                 rw [if_pos c23] at H
                 have c23b0 : decide (((rd_T69 l0_1 x9_2).f1) < (x7_2.length : Int)) = true := decide_eq_true c23
                 try (have c23b0hl7_1 := c23b0; simp only [hl7_1] at c23b0hl7_1)
                 try (have c23b0hl7_2 := c23b0; simp only [hl7_2] at c23b0hl7_2)
                 clear c23
                 by_cases c24 : ((rdOf false x7_2 ((rd_T69 l0_1 x9_2).f0)) != (rdOf false x7_2 ((rd_T69 l0_1 x9_2).f1))) = true
                 ·
                  rw [if_pos c24] at H
                  have c24b0 : ((rdOf false x7_2 ((rd_T69 l0_1 x9_2).f0)) != (rdOf false x7_2 ((rd_T69 l0_1 x9_2).f1))) = true := c24
                  (try (have c24b1 : decide ((rdOf false x7_2 ((rd_T69 l0_1 x9_2).f0)) = (rdOf false x7_2 ((rd_T69 l0_1 x9_2).f1))) = false := by simpa using c24))
                  (try (have c24b2 : ((rdOf false x7_2 ((rd_T69 l0_1 x9_2).f0)) == (rdOf false x7_2 ((rd_T69 l0_1 x9_2).f1))) = false := by simpa using c24))
                  (try (have c24b3 : ¬ ((rdOf false x7_2 ((rd_T69 l0_1 x9_2).f0)) = (rdOf false x7_2 ((rd_T69 l0_1 x9_2).f1))) := by simpa using c24))
                  clear c24
                  obtain ⟨y257, hy257⟩ : ∃ y_ : List Bool, y_ = (x7_2.set (((rd_T69 l0_1 x9_2).f0) : Int).toNat true) := ⟨_, rfl⟩
                  replace H : (dropperref05_from.l1 k2 a1 (y257.set (((rd_T69 l0_1 x9_2).f1) : Int).toNat true) true (wrap64 (x9_2 + 1)) a0_0 l0_1 l0_2) = some r := by first | (rw [hy257]; with_reducible exact H) | (have H2_ := (Option.bind_some _ _).symm.trans H; rw [hy257]; with_reducible exact H2_) | (have H2_ := (Option.bind_some _ _).symm.trans H; with_reducible exact H2_) | with_reducible exact H | (rw [hy257]; exact H) | exact H
                  have Ny257 := Aside0.mk hy257
                  clear hy257
                  obtain ⟨y258, hy258⟩ : ∃ y_ : List Bool, y_ = (y257.set (((rd_T69 l0_1 x9_2).f1) : Int).toNat true) := ⟨_, rfl⟩
                  replace H : (dropperref05_from.l1 k2 a1 y258 true (wrap64 (x9_2 + 1)) a0_0 l0_1 l0_2) = some r := by first | (rw [hy258]; with_reducible exact H) | (have H2_ := (Option.bind_some _ _).symm.trans H; rw [hy258]; with_reducible exact H2_) | (have H2_ := (Option.bind_some _ _).symm.trans H; with_reducible exact H2_) | with_reducible exact H | (rw [hy258]; exact H) | exact H
                  have Ny258 := Aside0.mk hy258
                  clear hy258
                  have H' := Aside0.mk H
                  clear H
                  have hcz27_0 := blkc BK247.out 0 (.int .i64 a0_0) rfl
                  have hcz27_1 := blkc BK247.out 1 (.slice A0_1 l0_1.length c0_1) rfl
                  have hcz27_2 := blkc BK247.out 2 (.slice A0_2 l0_2.length c0_2) rfl
                  have hfz27_0 := blk_frozen BK247.out 0
                  have hfz27_1 := blk_frozen BK247.out 1
                  have hfz27_2 := blk_frozen BK247.out 2
                  have p252 : 0 ≤ (x9_2 : Int) := of_decide_eq_true asz
                  have q252 : x9_2 < (l0_1.length : Int) := of_decide_eq_true asz
                  obtain ⟨ad252, e252, hx252_0, hx252_1⟩ := at_T69 HR0_1.out x9_2 p252 q252
                  cases e252
                  replace hx252_0 := (HB.out.cell (World.block_lt_of_cell? w _ hx252_0)).trans hx252_0
                  replace hx252_1 := (HB.out.cell (World.block_lt_of_cell? w _ hx252_1)).trans hx252_1
                  replace p252 := eq_true p252
                  replace q252 := eq_true q252
                  try go_wp2_with (first | ((with_reducible refine gate_dst (N := 10) rfl ?_); refine box_event ?hg (N := 10) ?hd (cs := #[.int .i64 0, .int .i64 0]) (t := 69) ?hr ?_; (case hd => rfl); (case hg => rfl); (case hr => first | (go_simp; done) | (go_simp; rfl)); intro gb253 hg w28 hbox hb; have n0_ := Aside0.mk (Kd.R_below (by (with_reducible repeat (first | apply Kd.R_alloc | apply Kd.R_drewN | apply Kd.R_drew)); exact HO_7.out) hb); have n1_ := Aside0.mk (blk_below (g := gb247) blkz hb); have n2_ := Aside0.mk (below_step bel hb); have n3_ := Aside0.mk (hbox); have n4_ := Aside0.mk ((by rw [hg]; exact (below_size bel) : w.heap.size ≤ gb253)); have n5_ := n4_; have n6_ := Aside0.mk ((by rw [hg]; exact Nat.ne_of_lt (blk_lt (g := gb247) (o := .cells #[.int .i64 a0_0, .slice (some ad252) l0_1.length c0_1, .slice A0_2 l0_2.length c0_2] 25 (0, 0)) blkz) : gb247 ≠ gb253)); have n7_ := Aside0.mk ((by rw [hg]; exact Nat.ne_of_gt (blk_lt (g := gb247) (o := .cells #[.int .i64 a0_0, .slice (some ad252) l0_1.length c0_1, .slice A0_2 l0_2.length c0_2] 25 (0, 0)) blkz) : gb253 ≠ gb247)); clear HO_7; clear BK247; clear HB; have HO_7 := n0_; have BK247 := n1_; have HB := n2_; have BK253 := n3_; have GW253 := n4_; have GE253 := n5_; have NB247_253 := n6_; have NB253_247 := n7_; clear n0_ n1_ n2_ n3_ n4_ n5_ n6_ n7_; clear hb hbox hg; have hnb29 := NB253_247.out; have hnc29 := NB247_253.out; have hcz30_0 := blkc BK253.out 0 (.int .i64 0) rfl; have hcz30_1 := blkc BK253.out 1 (.int .i64 0) rfl; have hfz30_0 := blk_frozen BK253.out 0; have hfz30_1 := blk_frozen BK253.out 1))
                  have n0_ : Aside0 (Kd.R Kd.bool 4 ((w28.setCell ⟨gb253, 0, none⟩ (.int .i64 ((rd_T69 l0_1 x9_2).f0))).setCell ⟨gb253, 1, none⟩ (.int .i64 ((rd_T69 l0_1 x9_2).f1))) w.heap.size (fun _ => True) (.slice (some ⟨go8, 0, none⟩) x7_2.length co8) x7_2) := ⟨by (with_reducible repeat (first | apply Kd.R_alloc | apply Kd.R_drewN | apply Kd.R_drew)); exact Kd.R_mono (Kd.R_far (p := ⟨gb253, 1, none⟩) (Kd.R_far (p := ⟨gb253, 0, none⟩) (Kd.R_types HO_7.out BK253.out (by decide)) (fun _ hk => hk.2) (.int .i64 ((rd_T69 l0_1 x9_2).f0))) (fun _ hk => hk.2) (.int .i64 ((rd_T69 l0_1 x9_2).f1))) (fun _ hk => trivial)⟩
                  have n1_ : Aside0 (((w28.setCell ⟨gb253, 0, none⟩ (.int .i64 ((rd_T69 l0_1 x9_2).f0))).setCell ⟨gb253, 1, none⟩ (.int .i64 ((rd_T69 l0_1 x9_2).f1))).heap[gb247]? = some (.cells #[.int .i64 a0_0, .slice (some ad252) l0_1.length c0_1, .slice A0_2 l0_2.length c0_2] 25 (0, 0))) := ⟨by (with_reducible repeat (first | refine blk_drewN ?_ _ | refine blk_drew ?_ | refine blk_alloc ?_ _)); refine blk_far ?_ NB247_253.out _; (with_reducible repeat (first | refine blk_drewN ?_ _ | refine blk_drew ?_ | refine blk_alloc ?_ _)); refine blk_far ?_ NB247_253.out _; (with_reducible repeat (first | refine blk_drewN ?_ _ | refine blk_drew ?_ | refine blk_alloc ?_ _)); exact BK247.out⟩
                  have n2_ : Aside0 (((w28.setCell ⟨gb253, 0, none⟩ (.int .i64 ((rd_T69 l0_1 x9_2).f0))).setCell ⟨gb253, 1, none⟩ (.int .i64 ((rd_T69 l0_1 x9_2).f1))).heap[gb253]? = some (.cells #[.int .i64 ((rd_T69 l0_1 x9_2).f0), .int .i64 ((rd_T69 l0_1 x9_2).f1)] 69 (0, 0))) := ⟨by (with_reducible repeat (first | refine blk_drewN ?_ _ | refine blk_drew ?_ | refine blk_alloc ?_ _)); refine blk_put (cs := #[.int .i64 ((rd_T69 l0_1 x9_2).f0), .int .i64 0]) ?_ 1 _ rfl; (with_reducible repeat (first | refine blk_drewN ?_ _ | refine blk_drew ?_ | refine blk_alloc ?_ _)); refine blk_put (cs := #[.int .i64 0, .int .i64 0]) ?_ 0 _ rfl; (with_reducible repeat (first | refine blk_drewN ?_ _ | refine blk_drew ?_ | refine blk_alloc ?_ _)); exact BK253.out⟩
                  have n3_ : Aside0 (Below w.heap.size w ((w28.setCell ⟨gb253, 0, none⟩ (.int .i64 ((rd_T69 l0_1 x9_2).f0))).setCell ⟨gb253, 1, none⟩ (.int .i64 ((rd_T69 l0_1 x9_2).f1)))) := ⟨by repeat (first | (with_reducible first | exact HB.out | apply below_alloc | apply pw_below_drewN | apply below_drew1 | refine below_set ?_ GE247.out | refine below_set ?_ GE253.out) | exact HB.out)⟩
                  (try clear HO_7)
                  (try clear BK247)
                  (try clear BK253)
                  (try clear HB)
                  generalize ((w28.setCell ⟨gb253, 0, none⟩ (.int .i64 ((rd_T69 l0_1 x9_2).f0))).setCell ⟨gb253, 1, none⟩ (.int .i64 ((rd_T69 l0_1 x9_2).f1))) = w31 at n0_ n1_ n2_ n3_ ⊢
                  have HO_7 := n0_
                  have BK247 := n1_
                  have BK253 := n2_
                  have HB := n3_
                  clear n0_ n1_ n2_ n3_
                  have n0_ := Aside0.mk (Kd.R_drew HO_7.out)
                  have n1_ := Aside0.mk (blk_drew BK247.out)
                  have n2_ := Aside0.mk (blk_drew BK253.out)
                  have n3_ := Aside0.mk (below_drew1 HB.out)
                  clear HO_7
                  clear BK247
                  clear BK253
                  clear HB
                  have HO_7 := n0_
                  have BK247 := n1_
                  have BK253 := n2_
                  have HB := n3_
                  clear n0_ n1_ n2_ n3_
                  have p255 : 0 ≤ (((rd_T69 l0_1 x9_2).f0) : Int) := of_decide_eq_true asz
                  have q255 : ((rd_T69 l0_1 x9_2).f0) < (x7_2.length : Int) := of_decide_eq_true asz
                  obtain ⟨ad255, e255, hx255_0⟩ := Kd.at_bool (Kd.R_reads' HO_7.out).2.2 ((rd_T69 l0_1 x9_2).f0) p255 q255
                  obtain rfl : (⟨go8, 0, none⟩ : Addr) = ad255 := (by injection e255)
                  (first | simp only [add_plain] at hx255_0 | simp only [add_at] at hx255_0 | simp only [Addr.add, Nat.zero_add] at hx255_0 | skip)
                  replace p255 := eq_true p255
                  replace q255 := eq_true q255
                  have p256 : 0 ≤ (((rd_T69 l0_1 x9_2).f1) : Int) := of_decide_eq_true asz
                  have q256 : ((rd_T69 l0_1 x9_2).f1) < (x7_2.length : Int) := of_decide_eq_true asz
                  obtain ⟨ad256, e256, hx256_0⟩ := Kd.at_bool (Kd.R_reads' HO_7.out).2.2 ((rd_T69 l0_1 x9_2).f1) p256 q256
                  obtain rfl : (⟨go8, 0, none⟩ : Addr) = ad256 := (by injection e256)
                  (first | simp only [add_plain] at hx256_0 | simp only [add_at] at hx256_0 | simp only [Addr.add, Nat.zero_add] at hx256_0 | skip)
                  replace p256 := eq_true p256
                  replace q256 := eq_true q256
                  refine start_ (n := 16) (S := fun w' => w'.cell? ⟨gb253, 0, none⟩ = some (.int .i64 ((rd_T69 l0_1 x9_2).f0)) ∧ w'.cell? ⟨gb253, 1, none⟩ = some (.int .i64 ((rd_T69 l0_1 x9_2).f1)) ∧ w'.cell? ⟨go8, (((rd_T69 l0_1 x9_2).f0)).toNat, none⟩ = some (.bool (rdOf false x7_2 ((rd_T69 l0_1 x9_2).f0))) ∧ w'.cell? ⟨go8, (((rd_T69 l0_1 x9_2).f1)).toNat, none⟩ = some (.bool (rdOf false x7_2 ((rd_T69 l0_1 x9_2).f1)))) (ds := []) #[false, false, false, false, false, false, false, false, false, false, false, false, false, false, false, false] (by kernel_rfl) rfl rfl ⟨(blk_cell BK253.out 0).trans rfl, (blk_cell BK253.out 1).trans rfl, hx255_0, hx256_0⟩ (fun hHeld => ?_); refine with_tabW dropperref05_from.tab10 dropperref05_from.bits10 (fun HT_ HW_ => ?_)
                  generalize w31.drew = w32 at HO_7 BK247 BK253 HB hx255_0 hx256_0 hHeld ⊢
                  refine pst (i := 0) (N := some 30) (bz 16 1) (any_of HT_.out (by kernel_rfl)) ?_
                  refine pst (i := 1) (N := some 31) (bz 16 3) (any_of HT_.out (by kernel_rfl)) ?_
                  refine one_ (i := 2) (N := some 32) #[true, true, true, false, false, false, false, false, false, false, false, false, false, false, false, false] rfl rfl (one_of HT_.out (by kernel_rfl)) (by decide) (fun K hK => ?_)
                  refine goes_ Tryd.func61 (by kernel_rfl) rfl #[.int .i64 a1, .int .i64 x9_2] (by rfl) rfl rfl mapz ?_
                  with_reducible refine (dropperref05_closed.calls a1 x9_2 true _ A18.out).mono ?_
                  rintro e w' ⟨rfl, ⟨nd, rfl⟩⟩
                  refine ⟨_, rfl, ?_⟩
                  refine hK.out _ _ ⟨(blk_cell BK253.out 0).trans rfl, (blk_cell BK253.out 1).trans rfl, hHeld.2.2.1, hHeld.2.2.2⟩ (fun hHeld => ?_)
                  clear hK K
                  refine norm_ (a' := ?_) ?_ ?_
                  rotate_left
                  ·
                   show Act.put _ (some 32) _ = _
                   simp only [Act.put, List.setIfInBounds_toArray, List.set_cons_zero, List.set_cons_succ, i64_w, i32_w]
                   rfl
                  refine pst (i := 3) (N := some 33) (bz 16 15) (any_of HT_.out (by kernel_rfl)) ?_
                  refine pst (i := 4) (N := some 34) (bz 16 31) (any_of HT_.out (by kernel_rfl)) ?_
                  refine pst (i := 5) (N := some 35) (bz 16 63) (any_of HT_.out (by kernel_rfl)) ?_
                  refine pst (i := 9) (N := some 39) (bz 16 575) (any_of HT_.out (by kernel_rfl)) ?_
                  refine pst (i := 10) (N := some 40) (bz 16 1599) (any_of HT_.out (by kernel_rfl)) ?_
                  refine tst4 (i := 6) (N := some 36) (bz 16 1663) (take_ofW HT_.out HW_.out (by kernel_rfl)) hHeld ?_
                  refine pst (i := 7) (N := some 37) (bz 16 1791) (any_of HT_.out (by kernel_rfl)) ?_
                  refine tst4 (i := 8) (N := some 38) (bz 16 2047) (take_ofW HT_.out HW_.out (by kernel_rfl)) hHeld ?_
                  refine tst4 (i := 11) (N := some 41) (bz 16 4095) (take_ofW HT_.out HW_.out (by kernel_rfl)) hHeld ?_
                  refine pst (i := 12) (N := some 42) (bz 16 8191) (any_of HT_.out (by kernel_rfl)) ?_
                  refine tst4 (i := 13) (N := some 43) (bz 16 16383) (take_ofW HT_.out HW_.out (by kernel_rfl)) hHeld ?_
                  refine pst (i := 14) (N := some 44) (bz 16 32767) (any_of HT_.out (by kernel_rfl)) ?_
                  refine pst (i := 15) (N := some 45) (bz 16 65535) (any_of HT_.out (by kernel_rfl)) ?_
                  refine done_ (done_of HT_.out (by kernel_rfl)) ?_
                  try go_wp2
                  (try (rw [drewN_self w32]; generalize hq_ : World.drewN w32 _ = w32; have n0_ : Aside0 (Kd.R Kd.bool 4 w32 w.heap.size (fun _ => True) (.slice (some ⟨go8, 0, none⟩) x7_2.length co8) x7_2) := ⟨by rw [← hq_]; exact (by (with_reducible repeat (first | apply Kd.R_alloc | apply Kd.R_drewN | apply Kd.R_drew)); exact HO_7.out)⟩; have n1_ : Aside0 (w32.heap[gb247]? = some (.cells #[.int .i64 a0_0, .slice (some ad252) l0_1.length c0_1, .slice A0_2 l0_2.length c0_2] 25 (0, 0))) := ⟨by rw [← hq_]; exact blkz⟩; have n2_ : Aside0 (w32.heap[gb253]? = some (.cells #[.int .i64 ((rd_T69 l0_1 x9_2).f0), .int .i64 ((rd_T69 l0_1 x9_2).f1)] 69 (0, 0))) := ⟨by rw [← hq_]; exact blkz⟩; have n3_ : Aside0 (Below w.heap.size w w32) := ⟨by rw [← hq_]; exact bel⟩; clear HO_7 BK247 BK253 HB hq_; have HO_7 := n0_; have BK247 := n1_; have BK253 := n2_; have HB := n3_; clear n0_ n1_ n2_ n3_))
                  have n0_ := Aside0.mk (Kd.R_drew HO_7.out)
                  have n1_ := Aside0.mk (blk_drew BK247.out)
                  have n2_ := Aside0.mk (blk_drew BK253.out)
                  have n3_ := Aside0.mk (below_drew1 HB.out)
                  clear HO_7
                  clear BK247
                  clear BK253
                  clear HB
                  have HO_7 := n0_
                  have BK247 := n1_
                  have BK253 := n2_
                  have HB := n3_
                  clear n0_ n1_ n2_ n3_
                  have p25 : 0 ≤ (((rd_T69 l0_1 x9_2).f0) : Int) := of_decide_eq_true asz
                  have q25 : (((rd_T69 l0_1 x9_2).f0) : Int) < ((x7_2.length : Int) : Int) := of_decide_eq_true asz
                  obtain ⟨hx25_0, hf25_0⟩ := Kd.R_celln false HO_7.out (((rd_T69 l0_1 x9_2).f0) : Int) p25 q25
                  replace p25 := eq_true p25
                  replace q25 := eq_true q25
                  have HP34 := Kd.R_putn HO_7.out (((rd_T69 l0_1 x9_2).f0) : Int) true
                  rw [← Ny257.out] at HP34
                  have HQ34 := Aside0.mk HP34
                  clear HP34
                  have p26 : 0 ≤ (((rd_T69 l0_1 x9_2).f1) : Int) := of_decide_eq_true asz
                  have q26 : (((rd_T69 l0_1 x9_2).f1) : Int) < ((x7_2.length : Int) : Int) := of_decide_eq_true asz
                  obtain ⟨hx26_0, hf26_0⟩ := Kd.R_celln false HQ34.out (((rd_T69 l0_1 x9_2).f1) : Int) p26 q26
                  replace p26 := eq_true p26
                  replace q26 := eq_true q26
                  have HP35 := Kd.R_putn HQ34.out (((rd_T69 l0_1 x9_2).f1) : Int) true
                  rw [← Ny258.out] at HP35
                  have HQ35 := Aside0.mk HP35
                  clear HP35
                  refine start_ (n := 11) (S := fun w' => w'.cell? ⟨gb253, 0, none⟩ = some (.int .i64 ((rd_T69 l0_1 x9_2).f0)) ∧ w'.cell? ⟨gb253, 1, none⟩ = some (.int .i64 ((rd_T69 l0_1 x9_2).f1))) (ds := []) #[false, false, false, false, false, false, false, false, false, false, false] (by kernel_rfl) rfl rfl ⟨(blk_cell BK253.out 0).trans rfl, (blk_cell BK253.out 1).trans rfl⟩ (fun hHeld => ?_); refine with_tabW dropperref05_from.tab11 dropperref05_from.bits11 (fun HT_ HW_ => ?_)
                  generalize w32.drew = w33 at HO_7 BK247 BK253 HB HQ34 HQ35 hf25_0 hf26_0 hx25_0 hx26_0 hHeld ⊢
                  refine pst (i := 0) (N := some 46) (bz 11 1) (any_of HT_.out (by kernel_rfl)) ?_
                  refine pst (i := 1) (N := some 47) (bz 11 3) (any_of HT_.out (by kernel_rfl)) ?_
                  refine pst (i := 3) (N := some 49) (bz 11 11) (any_of HT_.out (by kernel_rfl)) ?_
                  refine pst (i := 4) (N := some 50) (bz 11 27) (any_of HT_.out (by kernel_rfl)) ?_
                  refine tst2 (i := 2) (N := some 48) (bz 11 31) (take_ofW HT_.out HW_.out (by kernel_rfl)) hHeld ?_
                  refine pst (i := 6) (N := some 52) (bz 11 95) (any_of HT_.out (by kernel_rfl)) ?_
                  refine tst2 (i := 5) (N := some 51) (bz 11 127) (take_ofW HT_.out HW_.out (by kernel_rfl)) hHeld ?_
                  refine one_ (i := 7) (N := none) #[true, true, true, true, true, true, true, true, false, false, false] rfl rfl (one_of HT_.out (by kernel_rfl)) (by decide) (fun K hK => ?_)
                  refine skip_ (w1 := ?_) (by rfl) rfl ?_ ?_
                  rotate_left
                  ·
                   go_simp
                   rfl
                  refine hK.out _ _ ⟨((cell_far (p := ⟨go8, _, none⟩) (fun e_ => (Kd.R_ne HO_7.out BK253.out (by decide)) (by have h_ : gb253 = go8 := e_; rw [h_]; rfl)) _).trans (hHeld.1)), ((cell_far (p := ⟨go8, _, none⟩) (fun e_ => (Kd.R_ne HO_7.out BK253.out (by decide)) (by have h_ : gb253 = go8 := e_; rw [h_]; rfl)) _).trans (hHeld.2))⟩ (fun hHeld => ?_)
                  clear hK K
                  refine pst (i := 8) (N := some 53) (bz 11 511) (any_of HT_.out (by kernel_rfl)) ?_
                  refine one_ (i := 9) (N := none) #[true, true, true, true, true, true, true, true, true, true, false] rfl rfl (one_of HT_.out (by kernel_rfl)) (by decide) (fun K hK => ?_)
                  refine skip_ (w1 := ?_) (by rfl) rfl ?_ ?_
                  rotate_left
                  ·
                   go_simp
                   rfl
                  refine hK.out _ _ ⟨((cell_far (p := ⟨go8, _, none⟩) (fun e_ => (Kd.R_ne HO_7.out BK253.out (by decide)) (by have h_ : gb253 = go8 := e_; rw [h_]; rfl)) _).trans (hHeld.1)), ((cell_far (p := ⟨go8, _, none⟩) (fun e_ => (Kd.R_ne HO_7.out BK253.out (by decide)) (by have h_ : gb253 = go8 := e_; rw [h_]; rfl)) _).trans (hHeld.2))⟩ (fun hHeld => ?_)
                  clear hK K
                  refine pst (i := 10) (N := some 8) (bz 11 2047) (any_of HT_.out (by kernel_rfl)) ?_
                  refine done_ (done_of HT_.out (by kernel_rfl)) ?_
                  try go_wp2
                  (try simp only [← hl7_2])
                  go_roundg k2
                  case measure => have := HK1.out; have := HK2.out; omega
                  case rel => exact ⟨(y258), (true), (wrap64 (x9_2 + 1)), rsz, rsz, H', ⟨by have := HK1.out; have := HK2.out; omega⟩, ⟨by (try simp only [hl7_1]); (try simp only [hl7_2]); (with_reducible repeat (first | apply Kd.R_alloc | apply Kd.R_drewN | apply Kd.R_drew)); exact HQ35.out⟩, ⟨by (try simp only [hl7_1]); (try simp only [hl7_2]); (with_reducible repeat (first | refine blk_drewN ?_ _ | refine blk_drew ?_ | refine blk_alloc ?_ _)); refine blk_far ?_ (by have h_ := Kd.R_ne HO_7.out BK247.out (by decide); intro e_; exact h_ (by rw [e_]; rfl)) _; (with_reducible repeat (first | refine blk_drewN ?_ _ | refine blk_drew ?_ | refine blk_alloc ?_ _)); refine blk_far ?_ (by have h_ := Kd.R_ne HO_7.out BK247.out (by decide); intro e_; exact h_ (by rw [e_]; rfl)) _; (with_reducible repeat (first | refine blk_drewN ?_ _ | refine blk_drew ?_ | refine blk_alloc ?_ _)); exact BK247.out⟩, ⟨by repeat (first | (with_reducible first | exact HB.out | apply below_alloc | apply pw_below_drewN | apply below_drew1 | refine below_set ?_ GB8.out | refine below_set ?_ GB8.out | refine below_set ?_ GE247.out | refine below_set ?_ GE253.out) | exact HB.out)⟩⟩
                 ·
                  rw [if_neg c24] at H
                  have c24b0 : ((rdOf false x7_2 ((rd_T69 l0_1 x9_2).f0)) != (rdOf false x7_2 ((rd_T69 l0_1 x9_2).f1))) = false := by simpa using c24
                  (try (have c24b1 : decide ((rdOf false x7_2 ((rd_T69 l0_1 x9_2).f0)) = (rdOf false x7_2 ((rd_T69 l0_1 x9_2).f1))) = true := by simpa using c24))
                  (try (have c24b2 : ((rdOf false x7_2 ((rd_T69 l0_1 x9_2).f0)) == (rdOf false x7_2 ((rd_T69 l0_1 x9_2).f1))) = true := by simpa using c24))
                  clear c24
                  have H' := Aside0.mk H
                  clear H
                  have hcz36_0 := blkc BK247.out 0 (.int .i64 a0_0) rfl
                  have hcz36_1 := blkc BK247.out 1 (.slice A0_1 l0_1.length c0_1) rfl
                  have hcz36_2 := blkc BK247.out 2 (.slice A0_2 l0_2.length c0_2) rfl
                  have hfz36_0 := blk_frozen BK247.out 0
                  have hfz36_1 := blk_frozen BK247.out 1
                  have hfz36_2 := blk_frozen BK247.out 2
                  have p252 : 0 ≤ (x9_2 : Int) := of_decide_eq_true asz
                  have q252 : x9_2 < (l0_1.length : Int) := of_decide_eq_true asz
                  obtain ⟨ad252, e252, hx252_0, hx252_1⟩ := at_T69 HR0_1.out x9_2 p252 q252
                  cases e252
                  replace hx252_0 := (HB.out.cell (World.block_lt_of_cell? w _ hx252_0)).trans hx252_0
                  replace hx252_1 := (HB.out.cell (World.block_lt_of_cell? w _ hx252_1)).trans hx252_1
                  replace p252 := eq_true p252
                  replace q252 := eq_true q252
                  try go_wp2_with (first | ((with_reducible refine gate_dst (N := 10) rfl ?_); refine box_event ?hg (N := 10) ?hd (cs := #[.int .i64 0, .int .i64 0]) (t := 69) ?hr ?_; (case hd => rfl); (case hg => rfl); (case hr => first | (go_simp; done) | (go_simp; rfl)); intro gb253 hg w37 hbox hb; have n0_ := Aside0.mk (Kd.R_below (by (with_reducible repeat (first | apply Kd.R_alloc | apply Kd.R_drewN | apply Kd.R_drew)); exact HO_7.out) hb); have n1_ := Aside0.mk (blk_below (g := gb247) blkz hb); have n2_ := Aside0.mk (below_step bel hb); have n3_ := Aside0.mk (hbox); have n4_ := Aside0.mk ((by rw [hg]; exact (below_size bel) : w.heap.size ≤ gb253)); have n5_ := n4_; have n6_ := Aside0.mk ((by rw [hg]; exact Nat.ne_of_lt (blk_lt (g := gb247) (o := .cells #[.int .i64 a0_0, .slice (some ad252) l0_1.length c0_1, .slice A0_2 l0_2.length c0_2] 25 (0, 0)) blkz) : gb247 ≠ gb253)); have n7_ := Aside0.mk ((by rw [hg]; exact Nat.ne_of_gt (blk_lt (g := gb247) (o := .cells #[.int .i64 a0_0, .slice (some ad252) l0_1.length c0_1, .slice A0_2 l0_2.length c0_2] 25 (0, 0)) blkz) : gb253 ≠ gb247)); clear HO_7; clear BK247; clear HB; have HO_7 := n0_; have BK247 := n1_; have HB := n2_; have BK253 := n3_; have GW253 := n4_; have GE253 := n5_; have NB247_253 := n6_; have NB253_247 := n7_; clear n0_ n1_ n2_ n3_ n4_ n5_ n6_ n7_; clear hb hbox hg; have hnb38 := NB253_247.out; have hnc38 := NB247_253.out; have hcz39_0 := blkc BK253.out 0 (.int .i64 0) rfl; have hcz39_1 := blkc BK253.out 1 (.int .i64 0) rfl; have hfz39_0 := blk_frozen BK253.out 0; have hfz39_1 := blk_frozen BK253.out 1))
                  have n0_ : Aside0 (Kd.R Kd.bool 4 ((w37.setCell ⟨gb253, 0, none⟩ (.int .i64 ((rd_T69 l0_1 x9_2).f0))).setCell ⟨gb253, 1, none⟩ (.int .i64 ((rd_T69 l0_1 x9_2).f1))) w.heap.size (fun _ => True) (.slice (some ⟨go8, 0, none⟩) x7_2.length co8) x7_2) := ⟨by (with_reducible repeat (first | apply Kd.R_alloc | apply Kd.R_drewN | apply Kd.R_drew)); exact Kd.R_mono (Kd.R_far (p := ⟨gb253, 1, none⟩) (Kd.R_far (p := ⟨gb253, 0, none⟩) (Kd.R_types HO_7.out BK253.out (by decide)) (fun _ hk => hk.2) (.int .i64 ((rd_T69 l0_1 x9_2).f0))) (fun _ hk => hk.2) (.int .i64 ((rd_T69 l0_1 x9_2).f1))) (fun _ hk => trivial)⟩
                  have n1_ : Aside0 (((w37.setCell ⟨gb253, 0, none⟩ (.int .i64 ((rd_T69 l0_1 x9_2).f0))).setCell ⟨gb253, 1, none⟩ (.int .i64 ((rd_T69 l0_1 x9_2).f1))).heap[gb247]? = some (.cells #[.int .i64 a0_0, .slice (some ad252) l0_1.length c0_1, .slice A0_2 l0_2.length c0_2] 25 (0, 0))) := ⟨by (with_reducible repeat (first | refine blk_drewN ?_ _ | refine blk_drew ?_ | refine blk_alloc ?_ _)); refine blk_far ?_ NB247_253.out _; (with_reducible repeat (first | refine blk_drewN ?_ _ | refine blk_drew ?_ | refine blk_alloc ?_ _)); refine blk_far ?_ NB247_253.out _; (with_reducible repeat (first | refine blk_drewN ?_ _ | refine blk_drew ?_ | refine blk_alloc ?_ _)); exact BK247.out⟩
                  have n2_ : Aside0 (((w37.setCell ⟨gb253, 0, none⟩ (.int .i64 ((rd_T69 l0_1 x9_2).f0))).setCell ⟨gb253, 1, none⟩ (.int .i64 ((rd_T69 l0_1 x9_2).f1))).heap[gb253]? = some (.cells #[.int .i64 ((rd_T69 l0_1 x9_2).f0), .int .i64 ((rd_T69 l0_1 x9_2).f1)] 69 (0, 0))) := ⟨by (with_reducible repeat (first | refine blk_drewN ?_ _ | refine blk_drew ?_ | refine blk_alloc ?_ _)); refine blk_put (cs := #[.int .i64 ((rd_T69 l0_1 x9_2).f0), .int .i64 0]) ?_ 1 _ rfl; (with_reducible repeat (first | refine blk_drewN ?_ _ | refine blk_drew ?_ | refine blk_alloc ?_ _)); refine blk_put (cs := #[.int .i64 0, .int .i64 0]) ?_ 0 _ rfl; (with_reducible repeat (first | refine blk_drewN ?_ _ | refine blk_drew ?_ | refine blk_alloc ?_ _)); exact BK253.out⟩
                  have n3_ : Aside0 (Below w.heap.size w ((w37.setCell ⟨gb253, 0, none⟩ (.int .i64 ((rd_T69 l0_1 x9_2).f0))).setCell ⟨gb253, 1, none⟩ (.int .i64 ((rd_T69 l0_1 x9_2).f1)))) := ⟨by repeat (first | (with_reducible first | exact HB.out | apply below_alloc | apply pw_below_drewN | apply below_drew1 | refine below_set ?_ GE247.out | refine below_set ?_ GE253.out) | exact HB.out)⟩
                  (try clear HO_7)
                  (try clear BK247)
                  (try clear BK253)
                  (try clear HB)
                  generalize ((w37.setCell ⟨gb253, 0, none⟩ (.int .i64 ((rd_T69 l0_1 x9_2).f0))).setCell ⟨gb253, 1, none⟩ (.int .i64 ((rd_T69 l0_1 x9_2).f1))) = w40 at n0_ n1_ n2_ n3_ ⊢
                  have HO_7 := n0_
                  have BK247 := n1_
                  have BK253 := n2_
                  have HB := n3_
                  clear n0_ n1_ n2_ n3_
                  have n0_ := Aside0.mk (Kd.R_drew HO_7.out)
                  have n1_ := Aside0.mk (blk_drew BK247.out)
                  have n2_ := Aside0.mk (blk_drew BK253.out)
                  have n3_ := Aside0.mk (below_drew1 HB.out)
                  clear HO_7
                  clear BK247
                  clear BK253
                  clear HB
                  have HO_7 := n0_
                  have BK247 := n1_
                  have BK253 := n2_
                  have HB := n3_
                  clear n0_ n1_ n2_ n3_
                  have p255 : 0 ≤ (((rd_T69 l0_1 x9_2).f0) : Int) := of_decide_eq_true asz
                  have q255 : ((rd_T69 l0_1 x9_2).f0) < (x7_2.length : Int) := of_decide_eq_true asz
                  obtain ⟨ad255, e255, hx255_0⟩ := Kd.at_bool (Kd.R_reads' HO_7.out).2.2 ((rd_T69 l0_1 x9_2).f0) p255 q255
                  obtain rfl : (⟨go8, 0, none⟩ : Addr) = ad255 := (by injection e255)
                  (first | simp only [add_plain] at hx255_0 | simp only [add_at] at hx255_0 | simp only [Addr.add, Nat.zero_add] at hx255_0 | skip)
                  replace p255 := eq_true p255
                  replace q255 := eq_true q255
                  have p256 : 0 ≤ (((rd_T69 l0_1 x9_2).f1) : Int) := of_decide_eq_true asz
                  have q256 : ((rd_T69 l0_1 x9_2).f1) < (x7_2.length : Int) := of_decide_eq_true asz
                  obtain ⟨ad256, e256, hx256_0⟩ := Kd.at_bool (Kd.R_reads' HO_7.out).2.2 ((rd_T69 l0_1 x9_2).f1) p256 q256
                  obtain rfl : (⟨go8, 0, none⟩ : Addr) = ad256 := (by injection e256)
                  (first | simp only [add_plain] at hx256_0 | simp only [add_at] at hx256_0 | simp only [Addr.add, Nat.zero_add] at hx256_0 | skip)
                  replace p256 := eq_true p256
                  replace q256 := eq_true q256
                  refine start_ (n := 16) (S := fun w' => w'.cell? ⟨gb253, 0, none⟩ = some (.int .i64 ((rd_T69 l0_1 x9_2).f0)) ∧ w'.cell? ⟨gb253, 1, none⟩ = some (.int .i64 ((rd_T69 l0_1 x9_2).f1)) ∧ w'.cell? ⟨go8, (((rd_T69 l0_1 x9_2).f0)).toNat, none⟩ = some (.bool (rdOf false x7_2 ((rd_T69 l0_1 x9_2).f0))) ∧ w'.cell? ⟨go8, (((rd_T69 l0_1 x9_2).f1)).toNat, none⟩ = some (.bool (rdOf false x7_2 ((rd_T69 l0_1 x9_2).f1)))) (ds := []) #[false, false, false, false, false, false, false, false, false, false, false, false, false, false, false, false] (by kernel_rfl) rfl rfl ⟨(blk_cell BK253.out 0).trans rfl, (blk_cell BK253.out 1).trans rfl, hx255_0, hx256_0⟩ (fun hHeld => ?_); refine with_tabW dropperref05_from.tab10 dropperref05_from.bits10 (fun HT_ HW_ => ?_)
                  generalize w40.drew = w41 at HO_7 BK247 BK253 HB hx255_0 hx256_0 hHeld ⊢
                  refine pst (i := 0) (N := some 30) (bz 16 1) (any_of HT_.out (by kernel_rfl)) ?_
                  refine pst (i := 1) (N := some 31) (bz 16 3) (any_of HT_.out (by kernel_rfl)) ?_
                  refine one_ (i := 2) (N := some 32) #[true, true, true, false, false, false, false, false, false, false, false, false, false, false, false, false] rfl rfl (one_of HT_.out (by kernel_rfl)) (by decide) (fun K hK => ?_)
                  refine goes_ Tryd.func61 (by kernel_rfl) rfl #[.int .i64 a1, .int .i64 x9_2] (by rfl) rfl rfl mapz ?_
                  with_reducible refine (dropperref05_closed.calls a1 x9_2 true _ A18.out).mono ?_
                  rintro e w' ⟨rfl, ⟨nd, rfl⟩⟩
                  refine ⟨_, rfl, ?_⟩
                  refine hK.out _ _ ⟨(blk_cell BK253.out 0).trans rfl, (blk_cell BK253.out 1).trans rfl, hHeld.2.2.1, hHeld.2.2.2⟩ (fun hHeld => ?_)
                  clear hK K
                  refine norm_ (a' := ?_) ?_ ?_
                  rotate_left
                  ·
                   show Act.put _ (some 32) _ = _
                   simp only [Act.put, List.setIfInBounds_toArray, List.set_cons_zero, List.set_cons_succ, i64_w, i32_w]
                   rfl
                  refine pst (i := 3) (N := some 33) (bz 16 15) (any_of HT_.out (by kernel_rfl)) ?_
                  refine pst (i := 4) (N := some 34) (bz 16 31) (any_of HT_.out (by kernel_rfl)) ?_
                  refine pst (i := 5) (N := some 35) (bz 16 63) (any_of HT_.out (by kernel_rfl)) ?_
                  refine pst (i := 9) (N := some 39) (bz 16 575) (any_of HT_.out (by kernel_rfl)) ?_
                  refine pst (i := 10) (N := some 40) (bz 16 1599) (any_of HT_.out (by kernel_rfl)) ?_
                  refine tst4 (i := 6) (N := some 36) (bz 16 1663) (take_ofW HT_.out HW_.out (by kernel_rfl)) hHeld ?_
                  refine pst (i := 7) (N := some 37) (bz 16 1791) (any_of HT_.out (by kernel_rfl)) ?_
                  refine tst4 (i := 8) (N := some 38) (bz 16 2047) (take_ofW HT_.out HW_.out (by kernel_rfl)) hHeld ?_
                  refine tst4 (i := 11) (N := some 41) (bz 16 4095) (take_ofW HT_.out HW_.out (by kernel_rfl)) hHeld ?_
                  refine pst (i := 12) (N := some 42) (bz 16 8191) (any_of HT_.out (by kernel_rfl)) ?_
                  refine tst4 (i := 13) (N := some 43) (bz 16 16383) (take_ofW HT_.out HW_.out (by kernel_rfl)) hHeld ?_
                  refine pst (i := 14) (N := some 44) (bz 16 32767) (any_of HT_.out (by kernel_rfl)) ?_
                  refine pst (i := 15) (N := some 45) (bz 16 65535) (any_of HT_.out (by kernel_rfl)) ?_
                  refine done_ (done_of HT_.out (by kernel_rfl)) ?_
                  try go_wp2
                  (try simp only [← hl7_2])
                  go_roundg k2
                  case measure => have := HK1.out; have := HK2.out; omega
                  case rel => exact ⟨(x7_2), (x8_2), (wrap64 (x9_2 + 1)), rsz, rsz, H', ⟨by have := HK1.out; have := HK2.out; omega⟩, ⟨by (try simp only [hl7_1]); (try simp only [hl7_2]); (with_reducible repeat (first | apply Kd.R_alloc | apply Kd.R_drewN | apply Kd.R_drew)); exact HO_7.out⟩, ⟨by (try simp only [hl7_1]); (try simp only [hl7_2]); (with_reducible repeat (first | refine blk_drewN ?_ _ | refine blk_drew ?_ | refine blk_alloc ?_ _)); exact BK247.out⟩, ⟨by repeat (first | (with_reducible first | exact HB.out | apply below_alloc | apply pw_below_drewN | apply below_drew1 | refine below_set ?_ GE247.out | refine below_set ?_ GE253.out) | exact HB.out)⟩⟩
                ·
                 rw [if_neg c23] at H
                 exact absurd H (by simp)
               ·
                rw [if_neg c22] at H
                exact absurd H (by simp)
              ·
               rw [if_neg c21] at H
               exact absurd H (by simp)
             ·
              rw [if_neg c20] at H
              exact absurd H (by simp)
            ·
             replace c19 := Bool.eq_false_iff.mpr c19
             subst c19
             have H1 : (dropperref05_from.l1 k2 a1 x7_2 x8_2 (wrap64 (x9_2 + 1)) a0_0 l0_1 l0_2) = some r := by rw [if_neg (show ¬ (false = true) by decide)] at H; exact H
             clear H
             have H := H1
             clear H1
             have H' := Aside0.mk H
             clear H
             have hcz42_0 := blkc BK247.out 0 (.int .i64 a0_0) rfl
             have hcz42_1 := blkc BK247.out 1 (.slice A0_1 l0_1.length c0_1) rfl
             have hcz42_2 := blkc BK247.out 2 (.slice A0_2 l0_2.length c0_2) rfl
             have hfz42_0 := blk_frozen BK247.out 0
             have hfz42_1 := blk_frozen BK247.out 1
             have hfz42_2 := blk_frozen BK247.out 2
             have p252 : 0 ≤ (x9_2 : Int) := of_decide_eq_true asz
             have q252 : x9_2 < (l0_1.length : Int) := of_decide_eq_true asz
             obtain ⟨ad252, e252, hx252_0, hx252_1⟩ := at_T69 HR0_1.out x9_2 p252 q252
             cases e252
             replace hx252_0 := (HB.out.cell (World.block_lt_of_cell? w _ hx252_0)).trans hx252_0
             replace hx252_1 := (HB.out.cell (World.block_lt_of_cell? w _ hx252_1)).trans hx252_1
             replace p252 := eq_true p252
             replace q252 := eq_true q252
             try go_wp2_with (first | ((with_reducible refine gate_dst (N := 10) rfl ?_); refine box_event ?hg (N := 10) ?hd (cs := #[.int .i64 0, .int .i64 0]) (t := 69) ?hr ?_; (case hd => rfl); (case hg => rfl); (case hr => first | (go_simp; done) | (go_simp; rfl)); intro gb253 hg w43 hbox hb; have n0_ := Aside0.mk (Kd.R_below (by (with_reducible repeat (first | apply Kd.R_alloc | apply Kd.R_drewN | apply Kd.R_drew)); exact HO_7.out) hb); have n1_ := Aside0.mk (blk_below (g := gb247) blkz hb); have n2_ := Aside0.mk (below_step bel hb); have n3_ := Aside0.mk (hbox); have n4_ := Aside0.mk ((by rw [hg]; exact (below_size bel) : w.heap.size ≤ gb253)); have n5_ := n4_; have n6_ := Aside0.mk ((by rw [hg]; exact Nat.ne_of_lt (blk_lt (g := gb247) (o := .cells #[.int .i64 a0_0, .slice (some ad252) l0_1.length c0_1, .slice A0_2 l0_2.length c0_2] 25 (0, 0)) blkz) : gb247 ≠ gb253)); have n7_ := Aside0.mk ((by rw [hg]; exact Nat.ne_of_gt (blk_lt (g := gb247) (o := .cells #[.int .i64 a0_0, .slice (some ad252) l0_1.length c0_1, .slice A0_2 l0_2.length c0_2] 25 (0, 0)) blkz) : gb253 ≠ gb247)); clear HO_7; clear BK247; clear HB; have HO_7 := n0_; have BK247 := n1_; have HB := n2_; have BK253 := n3_; have GW253 := n4_; have GE253 := n5_; have NB247_253 := n6_; have NB253_247 := n7_; clear n0_ n1_ n2_ n3_ n4_ n5_ n6_ n7_; clear hb hbox hg; have hnb44 := NB253_247.out; have hnc44 := NB247_253.out; have hcz45_0 := blkc BK253.out 0 (.int .i64 0) rfl; have hcz45_1 := blkc BK253.out 1 (.int .i64 0) rfl; have hfz45_0 := blk_frozen BK253.out 0; have hfz45_1 := blk_frozen BK253.out 1))
             have n0_ : Aside0 (Kd.R Kd.bool 4 ((w43.setCell ⟨gb253, 0, none⟩ (.int .i64 ((rd_T69 l0_1 x9_2).f0))).setCell ⟨gb253, 1, none⟩ (.int .i64 ((rd_T69 l0_1 x9_2).f1))) w.heap.size (fun _ => True) (.slice (some ⟨go8, 0, none⟩) x7_2.length co8) x7_2) := ⟨by (with_reducible repeat (first | apply Kd.R_alloc | apply Kd.R_drewN | apply Kd.R_drew)); exact Kd.R_mono (Kd.R_far (p := ⟨gb253, 1, none⟩) (Kd.R_far (p := ⟨gb253, 0, none⟩) (Kd.R_types HO_7.out BK253.out (by decide)) (fun _ hk => hk.2) (.int .i64 ((rd_T69 l0_1 x9_2).f0))) (fun _ hk => hk.2) (.int .i64 ((rd_T69 l0_1 x9_2).f1))) (fun _ hk => trivial)⟩
             have n1_ : Aside0 (((w43.setCell ⟨gb253, 0, none⟩ (.int .i64 ((rd_T69 l0_1 x9_2).f0))).setCell ⟨gb253, 1, none⟩ (.int .i64 ((rd_T69 l0_1 x9_2).f1))).heap[gb247]? = some (.cells #[.int .i64 a0_0, .slice (some ad252) l0_1.length c0_1, .slice A0_2 l0_2.length c0_2] 25 (0, 0))) := ⟨by (with_reducible repeat (first | refine blk_drewN ?_ _ | refine blk_drew ?_ | refine blk_alloc ?_ _)); refine blk_far ?_ NB247_253.out _; (with_reducible repeat (first | refine blk_drewN ?_ _ | refine blk_drew ?_ | refine blk_alloc ?_ _)); refine blk_far ?_ NB247_253.out _; (with_reducible repeat (first | refine blk_drewN ?_ _ | refine blk_drew ?_ | refine blk_alloc ?_ _)); exact BK247.out⟩
             have n2_ : Aside0 (((w43.setCell ⟨gb253, 0, none⟩ (.int .i64 ((rd_T69 l0_1 x9_2).f0))).setCell ⟨gb253, 1, none⟩ (.int .i64 ((rd_T69 l0_1 x9_2).f1))).heap[gb253]? = some (.cells #[.int .i64 ((rd_T69 l0_1 x9_2).f0), .int .i64 ((rd_T69 l0_1 x9_2).f1)] 69 (0, 0))) := ⟨by (with_reducible repeat (first | refine blk_drewN ?_ _ | refine blk_drew ?_ | refine blk_alloc ?_ _)); refine blk_put (cs := #[.int .i64 ((rd_T69 l0_1 x9_2).f0), .int .i64 0]) ?_ 1 _ rfl; (with_reducible repeat (first | refine blk_drewN ?_ _ | refine blk_drew ?_ | refine blk_alloc ?_ _)); refine blk_put (cs := #[.int .i64 0, .int .i64 0]) ?_ 0 _ rfl; (with_reducible repeat (first | refine blk_drewN ?_ _ | refine blk_drew ?_ | refine blk_alloc ?_ _)); exact BK253.out⟩
             have n3_ : Aside0 (Below w.heap.size w ((w43.setCell ⟨gb253, 0, none⟩ (.int .i64 ((rd_T69 l0_1 x9_2).f0))).setCell ⟨gb253, 1, none⟩ (.int .i64 ((rd_T69 l0_1 x9_2).f1)))) := ⟨by repeat (first | (with_reducible first | exact HB.out | apply below_alloc | apply pw_below_drewN | apply below_drew1 | refine below_set ?_ GE247.out | refine below_set ?_ GE253.out) | exact HB.out)⟩
             (try clear HO_7)
             (try clear BK247)
             (try clear BK253)
             (try clear HB)
             generalize ((w43.setCell ⟨gb253, 0, none⟩ (.int .i64 ((rd_T69 l0_1 x9_2).f0))).setCell ⟨gb253, 1, none⟩ (.int .i64 ((rd_T69 l0_1 x9_2).f1))) = w46 at n0_ n1_ n2_ n3_ ⊢
             have HO_7 := n0_
             have BK247 := n1_
             have BK253 := n2_
             have HB := n3_
             clear n0_ n1_ n2_ n3_
             have n0_ := Aside0.mk (Kd.R_drew HO_7.out)
             have n1_ := Aside0.mk (blk_drew BK247.out)
             have n2_ := Aside0.mk (blk_drew BK253.out)
             have n3_ := Aside0.mk (below_drew1 HB.out)
             clear HO_7
             clear BK247
             clear BK253
             clear HB
             have HO_7 := n0_
             have BK247 := n1_
             have BK253 := n2_
             have HB := n3_
             clear n0_ n1_ n2_ n3_
             refine start_ (n := 16) (S := fun w' => True) (ds := []) #[false, false, false, false, false, false, false, false, false, false, false, false, false, false, false, false] (by kernel_rfl) rfl rfl trivial (fun hHeld => ?_); refine with_tabW dropperref05_from.tab10 dropperref05_from.bits10 (fun HT_ HW_ => ?_)
             generalize w46.drew = w47 at HO_7 BK247 BK253 HB hHeld ⊢
             refine pst (i := 0) (N := some 30) (bz 16 1) (any_of HT_.out (by kernel_rfl)) ?_
             refine pst (i := 1) (N := some 31) (bz 16 3) (any_of HT_.out (by kernel_rfl)) ?_
             refine one_ (i := 2) (N := some 32) #[true, true, true, false, false, false, false, false, false, false, false, false, false, false, false, false] rfl rfl (one_of HT_.out (by kernel_rfl)) (by decide) (fun K hK => ?_)
             refine goes_ Tryd.func61 (by kernel_rfl) rfl #[.int .i64 a1, .int .i64 x9_2] (by rfl) rfl rfl mapz ?_
             with_reducible refine (dropperref05_closed.calls a1 x9_2 false _ A18.out).mono ?_
             rintro e w' ⟨rfl, ⟨nd, rfl⟩⟩
             refine ⟨_, rfl, ?_⟩
             refine hK.out _ _ trivial (fun hHeld => ?_)
             clear hK K
             refine norm_ (a' := ?_) ?_ ?_
             rotate_left
             ·
              show Act.put _ (some 32) _ = _
              simp only [Act.put, List.setIfInBounds_toArray, List.set_cons_zero, List.set_cons_succ, i64_w, i32_w]
              rfl
             refine pst (i := 3) (N := some 33) (bz 16 15) (any_of HT_.out (by kernel_rfl)) ?_
             refine pso (i := 4) (N := some 34) (bz 16 31) (any_of HT_.out (by kernel_rfl)) ?_
             refine pso (i := 5) (N := some 35) (bz 16 63) (any_of HT_.out (by kernel_rfl)) ?_
             refine pso (i := 6) (N := some 36) (bz 16 127) (any_of HT_.out (by kernel_rfl)) ?_
             refine pso (i := 7) (N := some 37) (bz 16 255) (any_of HT_.out (by kernel_rfl)) ?_
             refine pso (i := 8) (N := some 38) (bz 16 511) (any_of HT_.out (by kernel_rfl)) ?_
             refine pso (i := 9) (N := some 39) (bz 16 1023) (any_of HT_.out (by kernel_rfl)) ?_
             refine pso (i := 10) (N := some 40) (bz 16 2047) (any_of HT_.out (by kernel_rfl)) ?_
             refine pso (i := 11) (N := some 41) (bz 16 4095) (any_of HT_.out (by kernel_rfl)) ?_
             refine pso (i := 12) (N := some 42) (bz 16 8191) (any_of HT_.out (by kernel_rfl)) ?_
             refine pso (i := 13) (N := some 43) (bz 16 16383) (any_of HT_.out (by kernel_rfl)) ?_
             refine pso (i := 14) (N := some 44) (bz 16 32767) (any_of HT_.out (by kernel_rfl)) ?_
             refine pst (i := 15) (N := some 45) (bz 16 65535) (any_of HT_.out (by kernel_rfl)) ?_
             refine done_ (done_of HT_.out (by kernel_rfl)) ?_
             try go_wp2
             (try simp only [← hl7_2])
             go_roundg k2
             case measure => have := HK1.out; have := HK2.out; omega
             case rel => exact ⟨(x7_2), (x8_2), (wrap64 (x9_2 + 1)), rsz, rsz, H', ⟨by have := HK1.out; have := HK2.out; omega⟩, ⟨by (try simp only [hl7_1]); (try simp only [hl7_2]); (with_reducible repeat (first | apply Kd.R_alloc | apply Kd.R_drewN | apply Kd.R_drew)); exact HO_7.out⟩, ⟨by (try simp only [hl7_1]); (try simp only [hl7_2]); (with_reducible repeat (first | refine blk_drewN ?_ _ | refine blk_drew ?_ | refine blk_alloc ?_ _)); exact BK247.out⟩, ⟨by repeat (first | (with_reducible first | exact HB.out | apply below_alloc | apply pw_below_drewN | apply below_drew1 | refine below_set ?_ GE247.out | refine below_set ?_ GE253.out) | exact HB.out)⟩⟩
           ·
            rw [if_neg c17] at H
            exact absurd H (by simp)
          ·
           rw [if_neg c16] at H
           have c16b0 : decide (x9_2 < (l0_1.length : Int)) = false := decide_eq_false c16
           try (have c16b0hl7_1 := c16b0; simp only [hl7_1] at c16b0hl7_1)
           try (have c16b0hl7_2 := c16b0; simp only [hl7_2] at c16b0hl7_2)
           clear c16
           have H' := Aside0.mk H
           clear H
           have hcz48_0 := blkc BK247.out 0 (.int .i64 a0_0) rfl
           have hcz48_1 := blkc BK247.out 1 (.slice A0_1 l0_1.length c0_1) rfl
           have hcz48_2 := blkc BK247.out 2 (.slice A0_2 l0_2.length c0_2) rfl
           have hfz48_0 := blk_frozen BK247.out 0
           have hfz48_1 := blk_frozen BK247.out 1
           have hfz48_2 := blk_frozen BK247.out 2
           go_wp2
           (try simp only [← hl7_1, ← hl7_2])
           go_roundg k2
           case measure => have := HK1.out; have := HK2.out; omega
           case rel => exact ⟨(x7_2), (x8_2), rsz, H', ⟨by have := HK1.out; have := HK2.out; omega⟩, ⟨by (try simp only [hl7_1]); (try simp only [hl7_2]); (with_reducible repeat (first | apply Kd.R_alloc | apply Kd.R_drewN | apply Kd.R_drew)); exact HO_7.out⟩, ⟨by (try simp only [hl7_1]); (try simp only [hl7_2]); (with_reducible repeat (first | refine blk_drewN ?_ _ | refine blk_drew ?_ | refine blk_alloc ?_ _)); exact BK247.out⟩, ⟨by repeat (first | (with_reducible first | exact HB.out | apply below_alloc | apply pw_below_drewN | apply below_drew1 | refine below_set ?_ GE247.out) | exact HB.out)⟩⟩
       ·
        replace c15 := Bool.eq_false_iff.mpr c15
        subst c15
        have H1 : (some x7_1) = some r := by rw [if_neg (show ¬ (false = true) by decide)] at H; exact H
        clear H
        have H := H1
        clear H1
        obtain rfl := Option.some.inj H
        go_wp2
        go_ret
        exact ⟨_, by first | rfl | (simp [errW_none, errW_some] <;> rfl) | (simp [*, errW_none, errW_some] <;> rfl), by (with_reducible repeat (first | apply Kd.R_alloc | apply Kd.R_drewN | apply Kd.R_drew)); exact HO_7.out, by repeat (first | (with_reducible first | exact HB.out | apply below_alloc | apply pw_below_drewN | apply below_drew1 | refine below_set ?_ GE247.out) | exact HB.out)⟩
    ·
     rw [if_neg c7] at H
     exact absurd H (by simp)
   ·
    rw [if_neg c6] at H
    exact absurd H (by simp)
  ·
   rw [if_neg c5] at H
   exact absurd H (by simp)
 ·
  rw [if_neg c4] at H
  exact absurd H (by simp)

end Go.Proofs.YtoilhnmdemnknaaDoor.XFeed
