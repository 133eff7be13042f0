-- Written by wip/pack.py of this repo: texts of this claim, put together.
import Derived.Test.YtoilhnmdemnknaaDoorKFeedIsolatesc
-- Written by wip/xprint.py of this repo, over the kit's print.py: out of the translation; the oracles in it are by hand. Not trusted: Lean checks it.
namespace Go.Proofs.YtoilhnmdemnknaaDoor.XFeed
open Go.RowKit Go.Proofs.YtoilhnmdemnknaaDoorW.PrintWords Go.Proofs.YtoilhnmdemnknaaDoorW.PrintLast Go.Proofs.YtoilhnmdemnknaaDoorW.PrintMore
attribute [local go_sem] max2_int min2_int max_two min_two max_three min_three max_four min_four   -- for this text's walks alone
set_option linter.unusedVariables false
set_option linter.unusedSimpArgs false

/-! ### feed_Isolates: function 22 -/
def feed_Isolates.l0 : Nat → Int → Int → List Int → Int → List Int → Int → Int → Int → List (S69) → List (S71) → Int → List (S69) → List (S71) → Option (Bool × Int)
 | 0, _, _, _, _, _, _, _, _, _, _, _, _, _ => none
 | k + 1, x1, x2, x3, x12, x26, x27, x28, x348000, x348001, x348002, x357000, x357001, x357002 => if x28 < x27 then (if 0 ≤ x28 then (if x28 < (x26.length : Int) then ((feed_within.f 0 (rd x26 x28) (wrap64 ((x348001.length : Int) - 1))).bind fun t358 => (if t358 = true then (if 0 ≤ (rd x26 x28) then (if (Go.bits .and .i64 (shr .i64 x1 (rd x26 x28)) 1) = 0 then (some (false, 0)) else (if x28 > 0 then (if 0 ≤ (wrap64 (x28 - 1)) then (if (wrap64 (x28 - 1)) < (x3.length : Int) then (if (rd x26 x28) ≤ (rd x3 (wrap64 (x28 - 1))) then (some (false, 0)) else (feed_Isolates.l0 k x1 x2 x3 (Go.bits .andNot .i64 x12 (shl .i64 1 (rd x26 x28))) x26 x27 (wrap64 (x28 + 1)) x348000 x348001 x348002 x357000 x357001 x357002)) else (none)) else (none)) else (feed_Isolates.l0 k x1 x2 x3 (Go.bits .andNot .i64 x12 (shl .i64 1 (rd x26 x28))) x26 x27 (wrap64 (x28 + 1)) x348000 x348001 x348002 x357000 x357001 x357002))) else (none)) else (some (false, 0)))) else (none)) else (none)) else ((feed_grid_dead.f k x357000 x357001 x357002 x12 x2).bind fun t360 => (some (t360, 0)))
def feed_Isolates.f (k : Nat) (a0_0 : Int) (l0_1 : List (S69)) (l0_2 : List (S71)) (a1 : Int) (a2 : Int) (l3 : List Int) : Option (Bool × Int) := (feed_asked.f a0_0 l0_1 l0_2 a1 a2).bind fun bt348 => (if bt348.2 = 0 then (feed_Isolates.l0 k a1 a2 l3 a1 l3 (l3.length : Int) 0 a0_0 l0_1 l0_2 bt348.1 l0_1 l0_2) else (some (false, bt348.2)))
theorem feed_Isolates.mono_l : ∀ k, (∀ y0 y1 y2 y3 y4 y5 y6 y7 y8 y9 y10 y11 y12, LeO (feed_Isolates.l0 k y0 y1 y2 y3 y4 y5 y6 y7 y8 y9 y10 y11 y12) (feed_Isolates.l0 (k + 1) y0 y1 y2 y3 y4 y5 y6 y7 y8 y9 y10 y11 y12))
 | 0 => fun _ _ _ _ _ _ _ _ _ _ _ _ _ r h => by simp [feed_Isolates.l0] at h
 | k + 1 => by
  have ih0 := feed_Isolates.mono_l k
  ·
   intro y0 y1 y2 y3 y4 y5 y6 y7 y8 y9 y10 y11 y12
   unfold feed_Isolates.l0
   repeat' first
   | (with_reducible exact ih0 _ _ _ _ _ _ _ _ _ _ _ _ _)
   | (with_reducible exact feed_grid_dead.mono _ _ _ _ _ _)
   | (with_reducible exact LeO.refl _)
   | (with_reducible exact LeO.none _)
   | (with_reducible refine LeO.ite ?_ ?_)
   | (with_reducible refine LeO.bind ?_ (fun _ => ?_))
   | exact ih0 _ _ _ _ _ _ _ _ _ _ _ _ _
   | exact feed_grid_dead.mono _ _ _ _ _ _
   | exact LeO.none _
   | refine LeO.ite ?_ ?_
   | refine LeO.bind ?_ (fun _ => ?_)
theorem feed_Isolates.mono : ∀ a0 a1 a2 a3 a4 a5 k, LeO (feed_Isolates.f k a0 a1 a2 a3 a4 a5) (feed_Isolates.f (k + 1) a0 a1 a2 a3 a4 a5) := by
 intro a0 a1 a2 a3 a4 a5 k
 have ih0 := feed_Isolates.mono_l k
 unfold feed_Isolates.f
 repeat' first
   | (with_reducible exact ih0 _ _ _ _ _ _ _ _ _ _ _ _ _)
   | (with_reducible exact feed_grid_dead.mono _ _ _ _ _ _)
   | (with_reducible exact LeO.refl _)
   | (with_reducible exact LeO.none _)
   | (with_reducible refine LeO.ite ?_ ?_)
   | (with_reducible refine LeO.bind ?_ (fun _ => ?_))
   | exact ih0 _ _ _ _ _ _ _ _ _ _ _ _ _
   | exact feed_grid_dead.mono _ _ _ _ _ _
   | exact LeO.none _
   | refine LeO.ite ?_ ?_
   | refine LeO.bind ?_ (fun _ => ?_)
set_option maxHeartbeats 8000000 in
set_option maxRecDepth 100000 in
theorem feed_Isolates.calls (k : Nat) (a0_0 : Int) (A0_1 : Option Addr) (c0_1 : Nat) (l0_1 : List (S69)) (A0_2 : Option Addr) (c0_2 : Nat) (l0_2 : List (S71)) (a1 : Int) (a2 : Int) (A3 : Option Addr) (c3 : Nat) (l3 : List Int) (r1 : Bool) (r2 : Int) (w : World) (hr0_1 : Kd.C k69 w A0_1 l0_1.length l0_1) (hc0_1 : l0_1.length ≤ c0_1) (hr0_2 : Kd.C k71 w A0_2 l0_2.length l0_2) (hc0_2 : l0_2.length ≤ c0_2) (hr3 : Kd.C (Kd.int .i64) w A3 l3.length l3) (hc3 : l3.length ≤ c3) (h : feed_Isolates.f k a0_0 l0_1 l0_2 a1 a2 l3 = some (r1, r2)) :
  Calls Tryd.prog 22 #[.agg #[.int .i64 a0_0, .slice A0_1 l0_1.length c0_1, .slice A0_2 l0_2.length c0_2], .int .i64 a1, .int .i64 a2, .slice A3 l3.length c3] w fun e w' => e = .returned (.tuple #[.bool r1, .int .i64 r2]) ∧ Below w.heap.size w w' := by
 have hu25 := Tryd.underlying25
 have hu73 := Tryd.underlying73
 have HR0_1 := Aside0.mk hr0_1
 have HC0_1 := Aside0.mk hc0_1
 clear hr0_1 hc0_1
 have HR0_2 := Aside0.mk hr0_2
 have HC0_2 := Aside0.mk hc0_2
 clear hr0_2 hc0_2
 have HR3 := Aside0.mk hr3
 have HC3 := Aside0.mk hc3
 clear hr3 hc3
 have HB := Aside0.mk (Below.refl w.heap.size w)
 have H : ((feed_asked.f a0_0 l0_1 l0_2 a1 a2).bind fun bt348 => (if bt348.2 = 0 then (feed_Isolates.l0 k a1 a2 l3 a1 l3 (l3.length : Int) 0 a0_0 l0_1 l0_2 bt348.1 l0_1 l0_2) else (some (false, bt348.2)))) = some (r1, r2) := h
 clear h
 replace H := Option.bind_eq_some_iff.mp H
 obtain ⟨⟨t348, t355⟩, A50, H⟩ := H
 replace H : (if t355 = 0 then (feed_Isolates.l0 k a1 a2 l3 a1 l3 (l3.length : Int) 0 a0_0 l0_1 l0_2 t348 l0_1 l0_2) else (some (false, t355))) = some (r1, r2) := H
 have A5 := Aside0.mk A50
 clear A50
 by_cases c6 : t355 = 0
 ·
  rw [if_pos c6] at H
  have c6b0 : (t355 == 0) = true := beq_iff_eq.mpr c6
  have c6b1 : (t355 != 0) = false := bne_eq_false_iff_eq.mpr c6
  clear c6
  have H' := Aside0.mk H
  clear H
  go_enter Tryd.func22, Tryd.ntmps22
  go_wp2_with (first | ((with_reducible refine gate_dst (N := 4) rfl ?_); refine box_event ?hg (N := 4) ?hd (cs := #[.int .i64 a0_0, .slice A0_1 l0_1.length c0_1, .slice A0_2 l0_2.length c0_2]) (t := 25) ?hr ?_; (case hd => rfl); (case hg => rfl); (case hr => first | (go_simp; done) | (go_simp; rfl)); intro gb347 hg w7 hbox hb; have n0_ := Aside0.mk (below_step bel hb); have n1_ := Aside0.mk (hbox); have n2_ := Aside0.mk ((by rw [hg]; exact (below_size bel) : w.heap.size ≤ gb347)); have n3_ := n2_; clear HB; have HB := n0_; have BK347 := n1_; have GW347 := n2_; have GE347 := n3_; clear n0_ n1_ n2_ n3_; clear hb hbox hg; have hcz8_0 := blkc BK347.out 0 (.int .i64 a0_0) rfl; have hcz8_1 := blkc BK347.out 1 (.slice A0_1 l0_1.length c0_1) rfl; have hcz8_2 := blkc BK347.out 2 (.slice A0_2 l0_2.length c0_2) rfl; have hfz8_0 := blk_frozen BK347.out 0; have hfz8_1 := blk_frozen BK347.out 1; have hfz8_2 := blk_frozen BK347.out 2) | ((with_reducible refine gate_callee (f := 59) rfl ?_); refine goesL_ (some 19) rfl rfl Tryd.func59 (by kernel_rfl) rfl #[.agg #[.int .i64 a0_0, .slice A0_1 l0_1.length c0_1, .slice A0_2 l0_2.length c0_2], .int .i64 a1, .int .i64 a2] rfl mapz ?_; (with_reducible refine (feed_asked.calls a0_0 _ _ l0_1 _ _ l0_2 a1 a2 t348 t355 _ ?side1 ?side2 ?side3 ?side4 A5.out).mono ?_); (case side1 => exact cbz HR0_1); (case side2 => exact HC0_1.out); (case side3 => exact cbz HR0_2); (case side4 => exact HC0_2.out); rintro e w9 ⟨rfl, hb⟩; refine ⟨_, rfl, ?_⟩; have n0_ := Aside0.mk (blk_below (g := gb347) blkz hb); have n1_ := Aside0.mk (below_step bel hb); clear BK347; clear HB; have BK347 := n0_; have HB := n1_; clear n0_ n1_; (try clear hb); (try clear hb2); (try clear hk); (try clear hi)) | ((with_reducible refine gate_dst (N := 10) rfl ?_); refine box_event ?hg (N := 10) ?hd (cs := #[.int .i64 0, .slice none 0 0, .slice none 0 0]) (t := 73) ?hr ?_; (case hd => rfl); (case hg => rfl); (case hr => first | (go_simp; done) | (go_simp; rfl)); intro gb356 hg w10 hbox hb; have n0_ := Aside0.mk (blk_below (g := gb347) blkz hb); have n1_ := Aside0.mk (below_step bel hb); have n2_ := Aside0.mk (hbox); have n3_ := Aside0.mk ((by rw [hg]; exact (below_size bel) : w.heap.size ≤ gb356)); have n4_ := n3_; have n5_ := Aside0.mk ((by rw [hg]; exact Nat.ne_of_lt (blk_lt (g := gb347) (o := .cells #[.int .i64 a0_0, .slice A0_1 l0_1.length c0_1, .slice A0_2 l0_2.length c0_2] 25 (0, 0)) blkz) : gb347 ≠ gb356)); have n6_ := Aside0.mk ((by rw [hg]; exact Nat.ne_of_gt (blk_lt (g := gb347) (o := .cells #[.int .i64 a0_0, .slice A0_1 l0_1.length c0_1, .slice A0_2 l0_2.length c0_2] 25 (0, 0)) blkz) : gb356 ≠ gb347)); clear BK347; clear HB; have BK347 := n0_; have HB := n1_; have BK356 := n2_; have GW356 := n3_; have GE356 := n4_; have NB347_356 := n5_; have NB356_347 := n6_; clear n0_ n1_ n2_ n3_ n4_ n5_ n6_; clear hb hbox hg; have hnb11 := NB356_347.out; have hnc11 := NB347_356.out; have hcz12_0 := blkc BK356.out 0 (.int .i64 0) rfl; have hcz12_1 := blkc BK356.out 1 (.slice none 0 0) rfl; have hcz12_2 := blkc BK356.out 2 (.slice none 0 0) rfl; have hfz12_0 := blk_frozen BK356.out 0; have hfz12_1 := blk_frozen BK356.out 1; have hfz12_2 := blk_frozen BK356.out 2))
  go_loopg [12, 28] k (fun kq v12 v28 w' => ∃ (x12_1 : Int) (x28_1 : Int), v12 = .int .i64 x12_1 ∧ v28 = .int .i64 x28_1 ∧ Aside0 (feed_Isolates.l0 kq a1 a2 l3 x12_1 l3 (l3.length : Int) x28_1 a0_0 l0_1 l0_2 t348 l0_1 l0_2 = some (r1, r2)) ∧ Aside0 (kq ≤ k) ∧ Aside0 (w'.heap[gb347]? = some (.cells #[.int .i64 a0_0, (.slice A0_1 l0_1.length c0_1), (.slice A0_2 l0_2.length c0_2)] 25 (0, 0))) ∧ Aside0 (w'.heap[gb356]? = some (.cells #[.int .i64 t348, (.slice A0_1 l0_1.length c0_1), (.slice A0_2 l0_2.length c0_2)] 73 (0, 0))) ∧ Aside0 (Below w.heap.size w w'))
  case atStart => exact ⟨(a1), (0), rsz, rsz, H', ⟨Nat.le_refl _⟩, ⟨by (with_reducible repeat (first | refine blk_drewN ?_ _ | refine blk_drew ?_ | refine blk_alloc ?_ _)); refine blk_far ?_ NB347_356.out _; (with_reducible repeat (first | refine blk_drewN ?_ _ | refine blk_drew ?_ | refine blk_alloc ?_ _)); refine blk_far ?_ NB347_356.out _; (with_reducible repeat (first | refine blk_drewN ?_ _ | refine blk_drew ?_ | refine blk_alloc ?_ _)); refine blk_far ?_ NB347_356.out _; (with_reducible repeat (first | refine blk_drewN ?_ _ | refine blk_drew ?_ | refine blk_alloc ?_ _)); exact BK347.out⟩, ⟨by (with_reducible repeat (first | refine blk_drewN ?_ _ | refine blk_drew ?_ | refine blk_alloc ?_ _)); refine blk_put (cs := #[.int .i64 t348, .slice A0_1 l0_1.length c0_1, .slice none 0 0]) ?_ 2 _ rfl; (with_reducible repeat (first | refine blk_drewN ?_ _ | refine blk_drew ?_ | refine blk_alloc ?_ _)); refine blk_put (cs := #[.int .i64 t348, .slice none 0 0, .slice none 0 0]) ?_ 1 _ rfl; (with_reducible repeat (first | refine blk_drewN ?_ _ | refine blk_drew ?_ | refine blk_alloc ?_ _)); refine blk_put (cs := #[.int .i64 0, .slice none 0 0, .slice none 0 0]) ?_ 0 _ rfl; (with_reducible repeat (first | refine blk_drewN ?_ _ | refine blk_drew ?_ | refine blk_alloc ?_ _)); exact BK356.out⟩, ⟨by repeat (first | (with_reducible first | exact HB.out | apply below_alloc | apply pw_below_drewN | apply below_drew1 | refine below_set ?_ GE347.out | refine below_set ?_ GE356.out) | exact HB.out)⟩⟩
  case round =>
   clear H'
   try clear c1
   try clear c2
   try clear p2
   try clear c3
   try clear c5
   try clear c6
   try clear c6b0
   try clear c6b1
   try clear c11
   try clear hcz12_0
   try clear hcz12_1
   try clear hcz12_2
   try clear hcz8_0
   try clear hcz8_1
   try clear hcz8_2
   try clear hfz12_0
   try clear hfz12_1
   try clear hfz12_2
   try clear hfz8_0
   try clear hfz8_1
   try clear hfz8_2
   obtain ⟨x12_1, x28_1, rfl, rfl, HA, HK1, BK347, BK356, HB⟩ := hrel
   cases gk with
   | zero => exact absurd HA.out (by simp [feed_Isolates.l0])
   | succ k1 =>
    have H := HA.out
    clear HA
    simp only [feed_Isolates.l0] at H
    by_cases c13 : x28_1 < (l3.length : Int)
    ·
     rw [if_pos c13] at H
     have c13b0 : decide (x28_1 < (l3.length : Int)) = true := decide_eq_true c13
     clear c13
     by_cases c14 : 0 ≤ x28_1
     ·
      rw [if_pos c14] at H
      have c14b0 : decide (0 ≤ x28_1) = true := decide_eq_true c14
      clear c14
      by_cases c15 : x28_1 < (l3.length : Int)
      ·
       rw [if_pos c15] at H
       have c15b0 : decide (x28_1 < (l3.length : Int)) = true := decide_eq_true c15
       clear c15
       replace H := Option.bind_eq_some_iff.mp H
       obtain ⟨t358, A160, H⟩ := H
       replace H : (if t358 = true then (if 0 ≤ (rd l3 x28_1) then (if (Go.bits .and .i64 (shr .i64 a1 (rd l3 x28_1)) 1) = 0 then (some (false, 0)) else (if x28_1 > 0 then (if 0 ≤ (wrap64 (x28_1 - 1)) then (if (wrap64 (x28_1 - 1)) < (l3.length : Int) then (if (rd l3 x28_1) ≤ (rd l3 (wrap64 (x28_1 - 1))) then (some (false, 0)) else (feed_Isolates.l0 k1 a1 a2 l3 (Go.bits .andNot .i64 x12_1 (shl .i64 1 (rd l3 x28_1))) l3 (l3.length : Int) (wrap64 (x28_1 + 1)) a0_0 l0_1 l0_2 t348 l0_1 l0_2)) else (none)) else (none)) else (feed_Isolates.l0 k1 a1 a2 l3 (Go.bits .andNot .i64 x12_1 (shl .i64 1 (rd l3 x28_1))) l3 (l3.length : Int) (wrap64 (x28_1 + 1)) a0_0 l0_1 l0_2 t348 l0_1 l0_2))) else (none)) else (some (false, 0))) = some (r1, r2) := H
       have A16 := Aside0.mk A160
       clear A160
       by_cases c17 : t358 = true
       ·
        subst c17
        have H1 : (if 0 ≤ (rd l3 x28_1) then (if (Go.bits .and .i64 (shr .i64 a1 (rd l3 x28_1)) 1) = 0 then (some (false, 0)) else (if x28_1 > 0 then (if 0 ≤ (wrap64 (x28_1 - 1)) then (if (wrap64 (x28_1 - 1)) < (l3.length : Int) then (if (rd l3 x28_1) ≤ (rd l3 (wrap64 (x28_1 - 1))) then (some (false, 0)) else (feed_Isolates.l0 k1 a1 a2 l3 (Go.bits .andNot .i64 x12_1 (shl .i64 1 (rd l3 x28_1))) l3 (l3.length : Int) (wrap64 (x28_1 + 1)) a0_0 l0_1 l0_2 t348 l0_1 l0_2)) else (none)) else (none)) else (feed_Isolates.l0 k1 a1 a2 l3 (Go.bits .andNot .i64 x12_1 (shl .i64 1 (rd l3 x28_1))) l3 (l3.length : Int) (wrap64 (x28_1 + 1)) a0_0 l0_1 l0_2 t348 l0_1 l0_2))) else (none)) = some (r1, r2) := by rw [if_pos rfl] at H; exact H
        clear H
        have H := H1
        clear H1
        by_cases c18 : 0 ≤ (rd l3 x28_1)
        ·
         rw [if_pos c18] at H
         have c18b0 := eq_true c18
         have c18b1 : decide (0 ≤ (rd l3 x28_1)) = true := decide_eq_true c18
         clear c18
         obtain ⟨ji19, hji19⟩ : ∃ j_ : Int, (shr .i64 a1 (rd l3 x28_1)) = j_ := ⟨_, rfl⟩
         replace H : (if (Go.bits .and .i64 (ji19) 1) = 0 then (some (false, 0)) else (if x28_1 > 0 then (if 0 ≤ (wrap64 (x28_1 - 1)) then (if (wrap64 (x28_1 - 1)) < (l3.length : Int) then (if (rd l3 x28_1) ≤ (rd l3 (wrap64 (x28_1 - 1))) then (some (false, 0)) else (feed_Isolates.l0 k1 a1 a2 l3 (Go.bits .andNot .i64 x12_1 (shl .i64 1 (rd l3 x28_1))) l3 (l3.length : Int) (wrap64 (x28_1 + 1)) a0_0 l0_1 l0_2 t348 l0_1 l0_2)) else (none)) else (none)) else (feed_Isolates.l0 k1 a1 a2 l3 (Go.bits .andNot .i64 x12_1 (shl .i64 1 (rd l3 x28_1))) l3 (l3.length : Int) (wrap64 (x28_1 + 1)) a0_0 l0_1 l0_2 t348 l0_1 l0_2))) = some (r1, r2) := by first | (rw [hji19] at H; exact H) | (simp only [hji19] at H ⊢; exact H)
         (try rw [hji19] at A16)
         have hji19_ : (a1 / 2 ^ min (rd l3 x28_1).toNat 64) = ji19 := hji19
         have hji19z : (rd l3 x28_1) ≤ 64 → (a1 / 2 ^ (rd l3 x28_1).toNat) = ji19 := shr_small hji19
         by_cases c20 : (Go.bits .and .i64 (ji19) 1) = 0
         ·
          rw [if_pos c20] at H
          have c20b0 : ((Go.bits .and .i64 (ji19) 1) == 0) = true := beq_iff_eq.mpr c20
          have c20b1 : ((Go.bits .and .i64 (ji19) 1) != 0) = false := bne_eq_false_iff_eq.mpr c20
          clear c20
          simp only [Option.some.injEq, Prod.mk.injEq] at H
          obtain ⟨rfl, rfl⟩ := H
          have p357 : 0 ≤ (x28_1 : Int) := of_decide_eq_true asz
          have q357 : x28_1 < (l3.length : Int) := of_decide_eq_true asz
          obtain ⟨ad357, e357, hx357_0⟩ := Kd.at_int HR3.out x28_1 p357 q357
          cases e357
          replace hx357_0 := (HB.out.cell (World.block_lt_of_cell? w _ hx357_0)).trans hx357_0
          replace p357 := eq_true p357
          replace q357 := eq_true q357
          have hnb21 := NB347_356.out
          have hnc21 := NB356_347.out
          have hcz22_0 := blkc BK347.out 0 (.int .i64 a0_0) rfl
          have hcz22_1 := blkc BK347.out 1 (.slice A0_1 l0_1.length c0_1) rfl
          have hcz22_2 := blkc BK347.out 2 (.slice A0_2 l0_2.length c0_2) rfl
          have hfz22_0 := blk_frozen BK347.out 0
          have hfz22_1 := blk_frozen BK347.out 1
          have hfz22_2 := blk_frozen BK347.out 2
          go_wp2_with (first | ((with_reducible refine gate_callee (f := 53) rfl ?_); refine goesL_ (some 38) rfl rfl Tryd.func53 (by kernel_rfl) rfl #[.int .i64 0, .int .i64 (rd l3 x28_1), .int .i64 (wrap64 ((l0_1.length : Int) - 1))] rfl mapz ?_; (with_reducible refine (feed_within.calls 0 (rd l3 x28_1) (wrap64 ((l0_1.length : Int) - 1)) true _ A16.out).mono ?_); rintro e w' ⟨rfl, ⟨nd, rfl⟩⟩; refine ⟨_, rfl, ?_⟩))
          go_ret2
          exact ⟨by first | rfl | (simp [errW_none, errW_some] <;> rfl) | (simp only [← hji19]; first | rfl | (simp [errW_none, errW_some] <;> rfl)) | (simp [*, errW_none, errW_some] <;> rfl), by repeat (first | (with_reducible first | exact HB.out | apply below_alloc | apply pw_below_drewN | apply below_drew1 | refine below_set ?_ GE347.out | refine below_set ?_ GE356.out) | exact HB.out)⟩
         ·
          rw [if_neg c20] at H
          have c20b0 : ((Go.bits .and .i64 (ji19) 1) == 0) = false := beq_eq_false_iff_ne.mpr c20
          have c20b1 : ((Go.bits .and .i64 (ji19) 1) != 0) = true := bne_iff_ne.mpr c20
          by_cases c23 : x28_1 > 0
          ·
           rw [if_pos c23] at H
           have c23b0 : decide (0 < x28_1) = true := decide_eq_true c23
           clear c23
           obtain ⟨ji24, hji24⟩ : ∃ j_ : Int, (wrap64 (x28_1 - 1)) = j_ := ⟨_, rfl⟩
           replace H : (if 0 ≤ (ji24) then (if (ji24) < (l3.length : Int) then (if (rd l3 x28_1) ≤ (rd l3 (ji24)) then (some (false, 0)) else (feed_Isolates.l0 k1 a1 a2 l3 (Go.bits .andNot .i64 x12_1 (shl .i64 1 (rd l3 x28_1))) l3 (l3.length : Int) (wrap64 (x28_1 + 1)) a0_0 l0_1 l0_2 t348 l0_1 l0_2)) else (none)) else (none)) = some (r1, r2) := by first | (rw [hji24] at H; exact H) | (simp only [hji24] at H ⊢; exact H)
           (try rw [hji24] at A16)
           have hji24w : (IntKind.i64.wrap (x28_1 - 1)) = ji24 := (i64_w _).trans hji24
           by_cases c25 : 0 ≤ (ji24)
           ·
            rw [if_pos c25] at H
            have c25b0 : decide (0 ≤ (ji24)) = true := decide_eq_true c25
            clear c25
            by_cases c26 : (ji24) < (l3.length : Int)
            ·
             rw [if_pos c26] at H
             have c26b0 : decide ((ji24) < (l3.length : Int)) = true := decide_eq_true c26
             clear c26
             by_cases c27 : (rd l3 x28_1) ≤ (rd l3 (ji24))
             ·
              rw [if_pos c27] at H
              have c27b0 : decide ((rd l3 x28_1) ≤ (rd l3 (ji24))) = true := decide_eq_true c27
              clear c27
              simp only [Option.some.injEq, Prod.mk.injEq] at H
              obtain ⟨rfl, rfl⟩ := H
              have p357 : 0 ≤ (x28_1 : Int) := of_decide_eq_true asz
              have q357 : x28_1 < (l3.length : Int) := of_decide_eq_true asz
              obtain ⟨ad357, e357, hx357_0⟩ := Kd.at_int HR3.out x28_1 p357 q357
              cases e357
              replace hx357_0 := (HB.out.cell (World.block_lt_of_cell? w _ hx357_0)).trans hx357_0
              replace p357 := eq_true p357
              replace q357 := eq_true q357
              have hnb28 := NB347_356.out
              have hnc28 := NB356_347.out
              have hcz29_0 := blkc BK347.out 0 (.int .i64 a0_0) rfl
              have hcz29_1 := blkc BK347.out 1 (.slice A0_1 l0_1.length c0_1) rfl
              have hcz29_2 := blkc BK347.out 2 (.slice A0_2 l0_2.length c0_2) rfl
              have hfz29_0 := blk_frozen BK347.out 0
              have hfz29_1 := blk_frozen BK347.out 1
              have hfz29_2 := blk_frozen BK347.out 2
              go_wp2_with (first | ((with_reducible refine gate_callee (f := 53) rfl ?_); refine goesL_ (some 38) rfl rfl Tryd.func53 (by kernel_rfl) rfl #[.int .i64 0, .int .i64 (rd l3 x28_1), .int .i64 (wrap64 ((l0_1.length : Int) - 1))] rfl mapz ?_; (with_reducible refine (feed_within.calls 0 (rd l3 x28_1) (wrap64 ((l0_1.length : Int) - 1)) true _ A16.out).mono ?_); rintro e w' ⟨rfl, ⟨nd, rfl⟩⟩; refine ⟨_, rfl, ?_⟩; have p359 : 0 ≤ ((ji24) : Int) := of_decide_eq_true asz; have q359 : (ji24) < (l3.length : Int) := of_decide_eq_true asz; obtain ⟨ad359, e359, hx359_0⟩ := Kd.at_int HR3.out (ji24) p359 q359; obtain rfl : ad357 = ad359 := (by injection e359); replace hx359_0 := (HB.out.cell (World.block_lt_of_cell? w _ hx359_0)).trans hx359_0; replace p359 := eq_true p359; replace q359 := eq_true q359))
              go_ret2
              exact ⟨by first | rfl | (simp [errW_none, errW_some] <;> rfl) | (simp only [← hji19, ← hji24]; first | rfl | (simp [errW_none, errW_some] <;> rfl)) | (simp [*, errW_none, errW_some] <;> rfl), by repeat (first | (with_reducible first | exact HB.out | apply below_alloc | apply pw_below_drewN | apply below_drew1 | refine below_set ?_ GE347.out | refine below_set ?_ GE356.out) | exact HB.out)⟩
             ·
              rw [if_neg c27] at H
              have c27b0 : decide ((rd l3 x28_1) ≤ (rd l3 (ji24))) = false := decide_eq_false c27
              clear c27
              have c30b0 := eq_true (of_decide_eq_true asz : 0 ≤ (rd l3 x28_1))
              obtain ⟨ji31, hji31⟩ : ∃ j_ : Int, (shl .i64 1 (rd l3 x28_1)) = j_ := ⟨_, rfl⟩
              replace H : (feed_Isolates.l0 k1 a1 a2 l3 (Go.bits .andNot .i64 x12_1 (ji31)) l3 (l3.length : Int) (wrap64 (x28_1 + 1)) a0_0 l0_1 l0_2 t348 l0_1 l0_2) = some (r1, r2) := by first | (rw [hji31] at H; exact H) | (simp only [hji31] at H ⊢; exact H)
              (try rw [hji31] at A16)
              have hji31_ : (IntKind.i64.wrap (1 * 2 ^ min (rd l3 x28_1).toNat 64)) = ji31 := hji31
              have hji31z : (rd l3 x28_1) ≤ 64 → (IntKind.i64.wrap (1 * 2 ^ (rd l3 x28_1).toNat)) = ji31 := shl_small hji31
              have hji31u : (IntKind.i64.wrap (2 ^ min (rd l3 x28_1).toNat 64)) = ji31 := by have h_ := hji31_; rw [Int.one_mul] at h_; exact h_
              have hji31v : (rd l3 x28_1) ≤ 64 → (IntKind.i64.wrap (2 ^ (rd l3 x28_1).toNat)) = ji31 := fun hle_ => by have h_ := hji31z hle_; rw [Int.one_mul] at h_; exact h_
              have hji31y : (wrap64 (1 * 2 ^ min (rd l3 x28_1).toNat 64)) = ji31 := (i64_w _).symm.trans hji31_
              have hji31x : (rd l3 x28_1) ≤ 64 → (wrap64 (1 * 2 ^ (rd l3 x28_1).toNat)) = ji31 := fun h_ => (i64_w _).symm.trans (hji31z h_)
              have H' := Aside0.mk H
              clear H
              have p357 : 0 ≤ (x28_1 : Int) := of_decide_eq_true asz
              have q357 : x28_1 < (l3.length : Int) := of_decide_eq_true asz
              obtain ⟨ad357, e357, hx357_0⟩ := Kd.at_int HR3.out x28_1 p357 q357
              cases e357
              replace hx357_0 := (HB.out.cell (World.block_lt_of_cell? w _ hx357_0)).trans hx357_0
              replace p357 := eq_true p357
              replace q357 := eq_true q357
              have hnb32 := NB347_356.out
              have hnc32 := NB356_347.out
              have hcz33_0 := blkc BK347.out 0 (.int .i64 a0_0) rfl
              have hcz33_1 := blkc BK347.out 1 (.slice A0_1 l0_1.length c0_1) rfl
              have hcz33_2 := blkc BK347.out 2 (.slice A0_2 l0_2.length c0_2) rfl
              have hfz33_0 := blk_frozen BK347.out 0
              have hfz33_1 := blk_frozen BK347.out 1
              have hfz33_2 := blk_frozen BK347.out 2
              go_wp2_with (first | ((with_reducible refine gate_callee (f := 53) rfl ?_); refine goesL_ (some 38) rfl rfl Tryd.func53 (by kernel_rfl) rfl #[.int .i64 0, .int .i64 (rd l3 x28_1), .int .i64 (wrap64 ((l0_1.length : Int) - 1))] rfl mapz ?_; (with_reducible refine (feed_within.calls 0 (rd l3 x28_1) (wrap64 ((l0_1.length : Int) - 1)) true _ A16.out).mono ?_); rintro e w' ⟨rfl, ⟨nd, rfl⟩⟩; refine ⟨_, rfl, ?_⟩; have p359 : 0 ≤ ((ji24) : Int) := of_decide_eq_true asz; have q359 : (ji24) < (l3.length : Int) := of_decide_eq_true asz; obtain ⟨ad359, e359, hx359_0⟩ := Kd.at_int HR3.out (ji24) p359 q359; obtain rfl : ad357 = ad359 := (by injection e359); replace hx359_0 := (HB.out.cell (World.block_lt_of_cell? w _ hx359_0)).trans hx359_0; replace p359 := eq_true p359; replace q359 := eq_true q359))
              go_roundg k1
              case measure => have := HK1.out; omega
              case rel => exact ⟨(Go.bits .andNot .i64 x12_1 (ji31)), (wrap64 (x28_1 + 1)), (by first | rfl | (simp; done) | (simp only [← hji31] <;> (first | rfl | simp)) | (simp [*]; done)), rsz, H', ⟨by have := HK1.out; omega⟩, ⟨by (with_reducible repeat (first | refine blk_drewN ?_ _ | refine blk_drew ?_ | refine blk_alloc ?_ _)); exact BK347.out⟩, ⟨by (with_reducible repeat (first | refine blk_drewN ?_ _ | refine blk_drew ?_ | refine blk_alloc ?_ _)); exact BK356.out⟩, ⟨by repeat (first | (with_reducible first | exact HB.out | apply below_alloc | apply pw_below_drewN | apply below_drew1 | refine below_set ?_ GE347.out | refine below_set ?_ GE356.out) | exact HB.out)⟩⟩
            ·
             rw [if_neg c26] at H
             exact absurd H (by simp)
           ·
            rw [if_neg c25] at H
            exact absurd H (by simp)
          ·
           rw [if_neg c23] at H
           have c23b0 : decide (0 < x28_1) = false := decide_eq_false c23
           clear c23
           have c34b0 := eq_true (of_decide_eq_true asz : 0 ≤ (rd l3 x28_1))
           obtain ⟨ji35, hji35⟩ : ∃ j_ : Int, (shl .i64 1 (rd l3 x28_1)) = j_ := ⟨_, rfl⟩
           replace H : (feed_Isolates.l0 k1 a1 a2 l3 (Go.bits .andNot .i64 x12_1 (ji35)) l3 (l3.length : Int) (wrap64 (x28_1 + 1)) a0_0 l0_1 l0_2 t348 l0_1 l0_2) = some (r1, r2) := by first | (rw [hji35] at H; exact H) | (simp only [hji35] at H ⊢; exact H)
           (try rw [hji35] at A16)
           have hji35_ : (IntKind.i64.wrap (1 * 2 ^ min (rd l3 x28_1).toNat 64)) = ji35 := hji35
           have hji35z : (rd l3 x28_1) ≤ 64 → (IntKind.i64.wrap (1 * 2 ^ (rd l3 x28_1).toNat)) = ji35 := shl_small hji35
           have hji35u : (IntKind.i64.wrap (2 ^ min (rd l3 x28_1).toNat 64)) = ji35 := by have h_ := hji35_; rw [Int.one_mul] at h_; exact h_
           have hji35v : (rd l3 x28_1) ≤ 64 → (IntKind.i64.wrap (2 ^ (rd l3 x28_1).toNat)) = ji35 := fun hle_ => by have h_ := hji35z hle_; rw [Int.one_mul] at h_; exact h_
           have hji35y : (wrap64 (1 * 2 ^ min (rd l3 x28_1).toNat 64)) = ji35 := (i64_w _).symm.trans hji35_
           have hji35x : (rd l3 x28_1) ≤ 64 → (wrap64 (1 * 2 ^ (rd l3 x28_1).toNat)) = ji35 := fun h_ => (i64_w _).symm.trans (hji35z h_)
           have H' := Aside0.mk H
           clear H
           have p357 : 0 ≤ (x28_1 : Int) := of_decide_eq_true asz
           have q357 : x28_1 < (l3.length : Int) := of_decide_eq_true asz
           obtain ⟨ad357, e357, hx357_0⟩ := Kd.at_int HR3.out x28_1 p357 q357
           cases e357
           replace hx357_0 := (HB.out.cell (World.block_lt_of_cell? w _ hx357_0)).trans hx357_0
           replace p357 := eq_true p357
           replace q357 := eq_true q357
           have hnb36 := NB347_356.out
           have hnc36 := NB356_347.out
           have hcz37_0 := blkc BK347.out 0 (.int .i64 a0_0) rfl
           have hcz37_1 := blkc BK347.out 1 (.slice A0_1 l0_1.length c0_1) rfl
           have hcz37_2 := blkc BK347.out 2 (.slice A0_2 l0_2.length c0_2) rfl
           have hfz37_0 := blk_frozen BK347.out 0
           have hfz37_1 := blk_frozen BK347.out 1
           have hfz37_2 := blk_frozen BK347.out 2
           go_wp2_with (first | ((with_reducible refine gate_callee (f := 53) rfl ?_); refine goesL_ (some 38) rfl rfl Tryd.func53 (by kernel_rfl) rfl #[.int .i64 0, .int .i64 (rd l3 x28_1), .int .i64 (wrap64 ((l0_1.length : Int) - 1))] rfl mapz ?_; (with_reducible refine (feed_within.calls 0 (rd l3 x28_1) (wrap64 ((l0_1.length : Int) - 1)) true _ A16.out).mono ?_); rintro e w' ⟨rfl, ⟨nd, rfl⟩⟩; refine ⟨_, rfl, ?_⟩))
           go_roundg k1
           case measure => have := HK1.out; omega
           case rel => exact ⟨(Go.bits .andNot .i64 x12_1 (ji35)), (wrap64 (x28_1 + 1)), (by first | rfl | (simp; done) | (simp only [← hji35] <;> (first | rfl | simp)) | (simp [*]; done)), rsz, H', ⟨by have := HK1.out; omega⟩, ⟨by (with_reducible repeat (first | refine blk_drewN ?_ _ | refine blk_drew ?_ | refine blk_alloc ?_ _)); exact BK347.out⟩, ⟨by (with_reducible repeat (first | refine blk_drewN ?_ _ | refine blk_drew ?_ | refine blk_alloc ?_ _)); exact BK356.out⟩, ⟨by repeat (first | (with_reducible first | exact HB.out | apply below_alloc | apply pw_below_drewN | apply below_drew1 | refine below_set ?_ GE347.out | refine below_set ?_ GE356.out) | exact HB.out)⟩⟩
        ·
         rw [if_neg c18] at H
         exact absurd H (by simp)
       ·
        replace c17 := Bool.eq_false_iff.mpr c17
        subst c17
        have H1 : (some (false, 0)) = some (r1, r2) := by rw [if_neg (show ¬ (false = true) by decide)] at H; exact H
        clear H
        have H := H1
        clear H1
        simp only [Option.some.injEq, Prod.mk.injEq] at H
        obtain ⟨rfl, rfl⟩ := H
        have p357 : 0 ≤ (x28_1 : Int) := of_decide_eq_true asz
        have q357 : x28_1 < (l3.length : Int) := of_decide_eq_true asz
        obtain ⟨ad357, e357, hx357_0⟩ := Kd.at_int HR3.out x28_1 p357 q357
        cases e357
        replace hx357_0 := (HB.out.cell (World.block_lt_of_cell? w _ hx357_0)).trans hx357_0
        replace p357 := eq_true p357
        replace q357 := eq_true q357
        have hnb38 := NB347_356.out
        have hnc38 := NB356_347.out
        have hcz39_0 := blkc BK347.out 0 (.int .i64 a0_0) rfl
        have hcz39_1 := blkc BK347.out 1 (.slice A0_1 l0_1.length c0_1) rfl
        have hcz39_2 := blkc BK347.out 2 (.slice A0_2 l0_2.length c0_2) rfl
        have hfz39_0 := blk_frozen BK347.out 0
        have hfz39_1 := blk_frozen BK347.out 1
        have hfz39_2 := blk_frozen BK347.out 2
        go_wp2_with (first | ((with_reducible refine gate_callee (f := 53) rfl ?_); refine goesL_ (some 38) rfl rfl Tryd.func53 (by kernel_rfl) rfl #[.int .i64 0, .int .i64 (rd l3 x28_1), .int .i64 (wrap64 ((l0_1.length : Int) - 1))] rfl mapz ?_; (with_reducible refine (feed_within.calls 0 (rd l3 x28_1) (wrap64 ((l0_1.length : Int) - 1)) false _ A16.out).mono ?_); rintro e w' ⟨rfl, ⟨nd, rfl⟩⟩; refine ⟨_, rfl, ?_⟩))
        go_ret2
        exact ⟨by first | rfl | (simp [errW_none, errW_some] <;> rfl) | (simp [*, errW_none, errW_some] <;> rfl), by repeat (first | (with_reducible first | exact HB.out | apply below_alloc | apply pw_below_drewN | apply below_drew1 | refine below_set ?_ GE347.out | refine below_set ?_ GE356.out) | exact HB.out)⟩
      ·
       rw [if_neg c15] at H
       exact absurd H (by simp)
     ·
      rw [if_neg c14] at H
      exact absurd H (by simp)
    ·
     rw [if_neg c13] at H
     have c13b0 : decide (x28_1 < (l3.length : Int)) = false := decide_eq_false c13
     clear c13
     replace H := Option.bind_eq_some_iff.mp H
     obtain ⟨t360, A400, H⟩ := H
     replace H : (some (t360, 0)) = some (r1, r2) := H
     have A40 := Aside0.mk A400
     clear A400
     simp only [Option.some.injEq, Prod.mk.injEq] at H
     obtain ⟨rfl, rfl⟩ := H
     have hnb41 := NB356_347.out
     have hnc41 := NB347_356.out
     have hcz42_0 := blkc BK356.out 0 (.int .i64 t348) rfl
     have hcz42_1 := blkc BK356.out 1 (.slice A0_1 l0_1.length c0_1) rfl
     have hcz42_2 := blkc BK356.out 2 (.slice A0_2 l0_2.length c0_2) rfl
     have hfz42_0 := blk_frozen BK356.out 0
     have hfz42_1 := blk_frozen BK356.out 1
     have hfz42_2 := blk_frozen BK356.out 2
     go_wp2_with (first | ((with_reducible refine gate_callee (f := 60) rfl ?_); refine goesL_ (some 68) rfl rfl Tryd.func60 (by kernel_rfl) rfl #[.agg #[.int .i64 t348, .slice A0_1 l0_1.length c0_1, .slice A0_2 l0_2.length c0_2], .int .i64 x12_1, .int .i64 a2] rfl mapz ?_; (with_reducible refine (feed_grid_dead.calls k1 t348 _ _ l0_1 _ _ l0_2 x12_1 a2 t360 _ ?side1 ?side2 ?side3 ?side4 A40.out).mono ?_); (case side1 => exact cbz HR0_1); (case side2 => exact HC0_1.out); (case side3 => exact cbz HR0_2); (case side4 => exact HC0_2.out); rintro e w43 ⟨rfl, hb⟩; refine ⟨_, rfl, ?_⟩; have n0_ := Aside0.mk (blk_below (g := gb347) blkz hb); have n1_ := Aside0.mk (blk_below (g := gb356) blkz hb); have n2_ := Aside0.mk (below_step bel hb); clear BK347; clear BK356; clear HB; have BK347 := n0_; have BK356 := n1_; have HB := n2_; clear n0_ n1_ n2_; (try clear hb); (try clear hb2); (try clear hk); (try clear hi)))
     go_ret2
     exact ⟨by first | rfl | (simp [errW_none, errW_some] <;> rfl) | (simp [*, errW_none, errW_some] <;> rfl), by repeat (first | (with_reducible first | exact HB.out | apply below_alloc | apply pw_below_drewN | apply below_drew1 | refine below_set ?_ GE347.out | refine below_set ?_ GE356.out) | exact HB.out)⟩
 ·
  rw [if_neg c6] at H
  have c6b0 : (t355 == 0) = false := beq_eq_false_iff_ne.mpr c6
  have c6b1 : (t355 != 0) = true := bne_iff_ne.mpr c6
  simp only [Option.some.injEq, Prod.mk.injEq] at H
  obtain ⟨rfl, rfl⟩ := H
  go_enter Tryd.func22, Tryd.ntmps22
  go_wp2_with (first | ((with_reducible refine gate_dst (N := 4) rfl ?_); refine box_event ?hg (N := 4) ?hd (cs := #[.int .i64 a0_0, .slice A0_1 l0_1.length c0_1, .slice A0_2 l0_2.length c0_2]) (t := 25) ?hr ?_; (case hd => rfl); (case hg => rfl); (case hr => first | (go_simp; done) | (go_simp; rfl)); intro gb347 hg w44 hbox hb; have n0_ := Aside0.mk (below_step bel hb); have n1_ := Aside0.mk (hbox); have n2_ := Aside0.mk ((by rw [hg]; exact (below_size bel) : w.heap.size ≤ gb347)); have n3_ := n2_; clear HB; have HB := n0_; have BK347 := n1_; have GW347 := n2_; have GE347 := n3_; clear n0_ n1_ n2_ n3_; clear hb hbox hg; have hcz45_0 := blkc BK347.out 0 (.int .i64 a0_0) rfl; have hcz45_1 := blkc BK347.out 1 (.slice A0_1 l0_1.length c0_1) rfl; have hcz45_2 := blkc BK347.out 2 (.slice A0_2 l0_2.length c0_2) rfl; have hfz45_0 := blk_frozen BK347.out 0; have hfz45_1 := blk_frozen BK347.out 1; have hfz45_2 := blk_frozen BK347.out 2) | ((with_reducible refine gate_callee (f := 59) rfl ?_); refine goesL_ (some 19) rfl rfl Tryd.func59 (by kernel_rfl) rfl #[.agg #[.int .i64 a0_0, .slice A0_1 l0_1.length c0_1, .slice A0_2 l0_2.length c0_2], .int .i64 a1, .int .i64 a2] rfl mapz ?_; (with_reducible refine (feed_asked.calls a0_0 _ _ l0_1 _ _ l0_2 a1 a2 t348 t355 _ ?side1 ?side2 ?side3 ?side4 A5.out).mono ?_); (case side1 => exact cbz HR0_1); (case side2 => exact HC0_1.out); (case side3 => exact cbz HR0_2); (case side4 => exact HC0_2.out); rintro e w46 ⟨rfl, hb⟩; refine ⟨_, rfl, ?_⟩; have n0_ := Aside0.mk (blk_below (g := gb347) blkz hb); have n1_ := Aside0.mk (below_step bel hb); clear BK347; clear HB; have BK347 := n0_; have HB := n1_; clear n0_ n1_; (try clear hb); (try clear hb2); (try clear hk); (try clear hi)) | ((with_reducible refine gate_dst (N := 10) rfl ?_); refine box_event ?hg (N := 10) ?hd (cs := #[.int .i64 0, .slice none 0 0, .slice none 0 0]) (t := 73) ?hr ?_; (case hd => rfl); (case hg => rfl); (case hr => first | (go_simp; done) | (go_simp; rfl)); intro gb356 hg w47 hbox hb; have n0_ := Aside0.mk (blk_below (g := gb347) blkz hb); have n1_ := Aside0.mk (below_step bel hb); have n2_ := Aside0.mk (hbox); have n3_ := Aside0.mk ((by rw [hg]; exact (below_size bel) : w.heap.size ≤ gb356)); have n4_ := n3_; have n5_ := Aside0.mk ((by rw [hg]; exact Nat.ne_of_lt (blk_lt (g := gb347) (o := .cells #[.int .i64 a0_0, .slice A0_1 l0_1.length c0_1, .slice A0_2 l0_2.length c0_2] 25 (0, 0)) blkz) : gb347 ≠ gb356)); have n6_ := Aside0.mk ((by rw [hg]; exact Nat.ne_of_gt (blk_lt (g := gb347) (o := .cells #[.int .i64 a0_0, .slice A0_1 l0_1.length c0_1, .slice A0_2 l0_2.length c0_2] 25 (0, 0)) blkz) : gb356 ≠ gb347)); clear BK347; clear HB; have BK347 := n0_; have HB := n1_; have BK356 := n2_; have GW356 := n3_; have GE356 := n4_; have NB347_356 := n5_; have NB356_347 := n6_; clear n0_ n1_ n2_ n3_ n4_ n5_ n6_; clear hb hbox hg; have hnb48 := NB356_347.out; have hnc48 := NB347_356.out; have hcz49_0 := blkc BK356.out 0 (.int .i64 0) rfl; have hcz49_1 := blkc BK356.out 1 (.slice none 0 0) rfl; have hcz49_2 := blkc BK356.out 2 (.slice none 0 0) rfl; have hfz49_0 := blk_frozen BK356.out 0; have hfz49_1 := blk_frozen BK356.out 1; have hfz49_2 := blk_frozen BK356.out 2))
  go_ret2
  exact ⟨by first | rfl | (simp [errW_none, errW_some] <;> rfl) | (simp [*, errW_none, errW_some] <;> rfl), by repeat (first | (with_reducible first | exact HB.out | apply below_alloc | apply pw_below_drewN | apply below_drew1 | refine below_set ?_ GE347.out | refine below_set ?_ GE356.out) | exact HB.out)⟩

end Go.Proofs.YtoilhnmdemnknaaDoor.XFeed

-- Written by wip/xprint.py of this repo, over the kit's print.py: out of the translation; the oracles in it are by hand. Not trusted: Lean checks it.
namespace Go.Proofs.YtoilhnmdemnknaaDoor.XFeed
open Go.RowKit Go.Proofs.YtoilhnmdemnknaaDoorW.PrintWords Go.Proofs.YtoilhnmdemnknaaDoorW.PrintLast Go.Proofs.YtoilhnmdemnknaaDoorW.PrintMore
attribute [local go_sem] max2_int min2_int max_two min_two max_three min_three max_four min_four   -- for this text's walks alone
set_option linter.unusedVariables false
set_option linter.unusedSimpArgs false

/-! ### dropperref05_section: function 58 -/
def dropperref05_section.f (a0_0 : Int) (l0_1 : List (S69)) (l0_2 : List (S71)) (a1 : Int) : Option (Bool) := if a1 ≥ 0 then (some (decide (a1 < a0_0))) else (some false)
set_option maxHeartbeats 8000000 in
set_option maxRecDepth 100000 in
theorem dropperref05_section.calls (a0_0 : Int) (A0_1 : Option Addr) (c0_1 : Nat) (l0_1 : List (S69)) (A0_2 : Option Addr) (c0_2 : Nat) (l0_2 : List (S71)) (a1 : Int) (r : Bool) (w : World) (hr0_1 : Kd.C k69 w A0_1 l0_1.length l0_1) (hc0_1 : l0_1.length ≤ c0_1) (hr0_2 : Kd.C k71 w A0_2 l0_2.length l0_2) (hc0_2 : l0_2.length ≤ c0_2) (h : dropperref05_section.f a0_0 l0_1 l0_2 a1 = some r) :
  Calls Tryd.prog 58 #[.agg #[.int .i64 a0_0, .slice A0_1 l0_1.length c0_1, .slice A0_2 l0_2.length c0_2], .int .i64 a1] w fun e w' => e = .returned (.bool r) ∧ Below w.heap.size w w' := by
 have hu25 := Tryd.underlying25
 have HR0_1 := Aside0.mk hr0_1
 have HC0_1 := Aside0.mk hc0_1
 clear hr0_1 hc0_1
 have HR0_2 := Aside0.mk hr0_2
 have HC0_2 := Aside0.mk hc0_2
 clear hr0_2 hc0_2
 have HB := Aside0.mk (Below.refl w.heap.size w)
 have H : (if a1 ≥ 0 then (some (decide (a1 < a0_0))) else (some false)) = some r := h
 clear h
 by_cases c3 : a1 ≥ 0
 ·
  rw [if_pos c3] at H
  have c3b0 : decide (0 ≤ a1) = true := decide_eq_true c3
  clear c3
  obtain rfl := Option.some.inj H
  go_enter Tryd.func58, Tryd.ntmps58
  go_wp2_with (first | ((with_reducible refine gate_dst (N := 2) rfl ?_); refine box_event ?hg (N := 2) ?hd (cs := #[.int .i64 a0_0, .slice A0_1 l0_1.length c0_1, .slice A0_2 l0_2.length c0_2]) (t := 25) ?hr ?_; (case hd => rfl); (case hg => rfl); (case hr => first | (go_simp; done) | (go_simp; rfl)); intro gb234 hg w4 hbox hb; have n0_ := Aside0.mk (below_step bel hb); have n1_ := Aside0.mk (hbox); have n2_ := Aside0.mk ((by rw [hg]; exact (below_size bel) : w.heap.size ≤ gb234)); have n3_ := n2_; clear HB; have HB := n0_; have BK234 := n1_; have GW234 := n2_; have GE234 := n3_; clear n0_ n1_ n2_ n3_; clear hb hbox hg; have hcz5_0 := blkc BK234.out 0 (.int .i64 a0_0) rfl; have hcz5_1 := blkc BK234.out 1 (.slice A0_1 l0_1.length c0_1) rfl; have hcz5_2 := blkc BK234.out 2 (.slice A0_2 l0_2.length c0_2) rfl; have hfz5_0 := blk_frozen BK234.out 0; have hfz5_1 := blk_frozen BK234.out 1; have hfz5_2 := blk_frozen BK234.out 2))
  go_ret
  exact ⟨by first | rfl | (simp [errW_none, errW_some] <;> rfl) | (simp [*, errW_none, errW_some] <;> rfl), by repeat (first | (with_reducible first | exact HB.out | apply below_alloc | apply pw_below_drewN | apply below_drew1 | refine below_set ?_ GE234.out) | exact HB.out)⟩
 ·
  rw [if_neg c3] at H
  have c3b0 : decide (0 ≤ a1) = false := decide_eq_false c3
  clear c3
  obtain rfl := Option.some.inj H
  go_enter Tryd.func58, Tryd.ntmps58
  go_wp2_with (first | ((with_reducible refine gate_dst (N := 2) rfl ?_); refine box_event ?hg (N := 2) ?hd (cs := #[.int .i64 a0_0, .slice A0_1 l0_1.length c0_1, .slice A0_2 l0_2.length c0_2]) (t := 25) ?hr ?_; (case hd => rfl); (case hg => rfl); (case hr => first | (go_simp; done) | (go_simp; rfl)); intro gb234 hg w6 hbox hb; have n0_ := Aside0.mk (below_step bel hb); have n1_ := Aside0.mk (hbox); have n2_ := Aside0.mk ((by rw [hg]; exact (below_size bel) : w.heap.size ≤ gb234)); have n3_ := n2_; clear HB; have HB := n0_; have BK234 := n1_; have GW234 := n2_; have GE234 := n3_; clear n0_ n1_ n2_ n3_; clear hb hbox hg))
  go_ret
  exact ⟨by first | rfl | (simp [errW_none, errW_some] <;> rfl) | (simp [*, errW_none, errW_some] <;> rfl), by repeat (first | (with_reducible first | exact HB.out | apply below_alloc | apply pw_below_drewN | apply below_drew1 | refine below_set ?_ GE234.out) | exact HB.out)⟩

end Go.Proofs.YtoilhnmdemnknaaDoor.XFeed

-- Written by wip/xprint.py of this repo, over the kit's print.py: out of the translation; the oracles in it are by hand. Not trusted: Lean checks it.
namespace Go.Proofs.YtoilhnmdemnknaaDoor.XFeed
open Go.RowKit Go.Proofs.YtoilhnmdemnknaaDoorW.PrintWords Go.Proofs.YtoilhnmdemnknaaDoorW.PrintLast Go.Proofs.YtoilhnmdemnknaaDoorW.PrintMore
attribute [local go_sem] max2_int min2_int max_two min_two max_three min_three max_four min_four   -- for this text's walks alone
set_option linter.unusedVariables false
set_option linter.unusedSimpArgs false

/-! ### dropperref05_Valid: function 20 -/
mutual
def dropperref05_Valid.j0 : Nat → Bool → Int → List (S69) → List (S71) → Option (Bool)
 | 0, _, _, _, _ => none
 | k + 1, x26, x236000, x236001, x236002 => if x26 = true then (some false) else (dropperref05_Valid.l0 k 0 x236000 x236001 x236002)
def dropperref05_Valid.l0 : Nat → Int → Int → List (S69) → List (S71) → Option (Bool)
 | 0, _, _, _, _ => none
 | k + 1, x3, x236000, x236001, x236002 => if x3 < (x236001.length : Int) then (if 0 ≤ x3 then ((dropperref05_section.f x236000 x236001 x236002 ((rd_T69 x236001 x3).f0)).bind fun t238 => (if t238 = true then ((dropperref05_section.f x236000 x236001 x236002 ((rd_T69 x236001 x3).f1)).bind fun t239 => (if t239 = true then (if ((rd_T69 x236001 x3).f0) = ((rd_T69 x236001 x3).f1) then (some false) else (dropperref05_Valid.l0 k (wrap64 (x3 + 1)) x236000 x236001 x236002)) else (some false))) else (some false))) else (none)) else (dropperref05_Valid.l1 k 0 x236000 x236001 x236002)
def dropperref05_Valid.l1 : Nat → Int → Int → List (S69) → List (S71) → Option (Bool)
 | 0, _, _, _, _ => none
 | k + 1, x5, x236000, x236001, x236002 => if x5 < (x236002.length : Int) then (if 0 ≤ x5 then ((dropperref05_section.f x236000 x236001 x236002 ((rd_T71 x236002 x5).f0)).bind fun t242 => (if t242 = true then (if ((rd_T71 x236002 x5).f1) < 1 then (some false) else (if ((rd_T71 x236002 x5).f1) > 3 then (some false) else (dropperref05_Valid.l1 k (wrap64 (x5 + 1)) x236000 x236001 x236002))) else (some false))) else (none)) else (some true)
end
def dropperref05_Valid.f (k : Nat) (a0_0 : Int) (l0_1 : List (S69)) (l0_2 : List (S71)) : Option (Bool) := if a0_0 < 1 then (dropperref05_Valid.j0 k true a0_0 l0_1 l0_2) else (if a0_0 > 8 then (dropperref05_Valid.j0 k true a0_0 l0_1 l0_2) else (if (l0_1.length : Int) > 10 then (dropperref05_Valid.j0 k true a0_0 l0_1 l0_2) else (dropperref05_Valid.j0 k (decide ((l0_2.length : Int) > 6)) a0_0 l0_1 l0_2)))
theorem dropperref05_Valid.mono_l : ∀ k, (∀ y0 y1 y2 y3, LeO (dropperref05_Valid.j0 k y0 y1 y2 y3) (dropperref05_Valid.j0 (k + 1) y0 y1 y2 y3)) ∧ (∀ y0 y1 y2 y3, LeO (dropperref05_Valid.l0 k y0 y1 y2 y3) (dropperref05_Valid.l0 (k + 1) y0 y1 y2 y3)) ∧ (∀ y0 y1 y2 y3, LeO (dropperref05_Valid.l1 k y0 y1 y2 y3) (dropperref05_Valid.l1 (k + 1) y0 y1 y2 y3))
 | 0 => ⟨fun _ _ _ _ r h => by simp [dropperref05_Valid.j0] at h, fun _ _ _ _ r h => by simp [dropperref05_Valid.l0] at h, fun _ _ _ _ r h => by simp [dropperref05_Valid.l1] at h⟩
 | k + 1 => by
  obtain ⟨ih0, ih1, ih2⟩ := dropperref05_Valid.mono_l k
  refine ⟨?_, ?_, ?_⟩
  ·
   intro y0 y1 y2 y3
   unfold dropperref05_Valid.j0
   repeat' first
   | (with_reducible exact ih0 _ _ _ _)
   | (with_reducible exact ih1 _ _ _ _)
   | (with_reducible exact ih2 _ _ _ _)
   | (with_reducible exact LeO.refl _)
   | (with_reducible exact LeO.none _)
   | (with_reducible refine LeO.ite ?_ ?_)
   | (with_reducible refine LeO.bind ?_ (fun _ => ?_))
   | exact ih0 _ _ _ _
   | exact ih1 _ _ _ _
   | exact ih2 _ _ _ _
   | exact LeO.none _
   | refine LeO.ite ?_ ?_
   | refine LeO.bind ?_ (fun _ => ?_)
  ·
   intro y0 y1 y2 y3
   unfold dropperref05_Valid.l0
   repeat' first
   | (with_reducible exact ih0 _ _ _ _)
   | (with_reducible exact ih1 _ _ _ _)
   | (with_reducible exact ih2 _ _ _ _)
   | (with_reducible exact LeO.refl _)
   | (with_reducible exact LeO.none _)
   | (with_reducible refine LeO.ite ?_ ?_)
   | (with_reducible refine LeO.bind ?_ (fun _ => ?_))
   | exact ih0 _ _ _ _
   | exact ih1 _ _ _ _
   | exact ih2 _ _ _ _
   | exact LeO.none _
   | refine LeO.ite ?_ ?_
   | refine LeO.bind ?_ (fun _ => ?_)
  ·
   intro y0 y1 y2 y3
   unfold dropperref05_Valid.l1
   repeat' first
   | (with_reducible exact ih0 _ _ _ _)
   | (with_reducible exact ih1 _ _ _ _)
   | (with_reducible exact ih2 _ _ _ _)
   | (with_reducible exact LeO.refl _)
   | (with_reducible exact LeO.none _)
   | (with_reducible refine LeO.ite ?_ ?_)
   | (with_reducible refine LeO.bind ?_ (fun _ => ?_))
   | exact ih0 _ _ _ _
   | exact ih1 _ _ _ _
   | exact ih2 _ _ _ _
   | exact LeO.none _
   | refine LeO.ite ?_ ?_
   | refine LeO.bind ?_ (fun _ => ?_)
theorem dropperref05_Valid.mono : ∀ a0 a1 a2 k, LeO (dropperref05_Valid.f k a0 a1 a2) (dropperref05_Valid.f (k + 1) a0 a1 a2) := by
 intro a0 a1 a2 k
 obtain ⟨ih0, ih1, ih2⟩ := dropperref05_Valid.mono_l k
 unfold dropperref05_Valid.f
 repeat' first
   | (with_reducible exact ih0 _ _ _ _)
   | (with_reducible exact ih1 _ _ _ _)
   | (with_reducible exact ih2 _ _ _ _)
   | (with_reducible exact LeO.refl _)
   | (with_reducible exact LeO.none _)
   | (with_reducible refine LeO.ite ?_ ?_)
   | (with_reducible refine LeO.bind ?_ (fun _ => ?_))
   | exact ih0 _ _ _ _
   | exact ih1 _ _ _ _
   | exact ih2 _ _ _ _
   | exact LeO.none _
   | refine LeO.ite ?_ ?_
   | refine LeO.bind ?_ (fun _ => ?_)
set_option maxHeartbeats 8000000 in
set_option maxRecDepth 100000 in
theorem dropperref05_Valid.calls (k : Nat) (a0_0 : Int) (A0_1 : Option Addr) (c0_1 : Nat) (l0_1 : List (S69)) (A0_2 : Option Addr) (c0_2 : Nat) (l0_2 : List (S71)) (r : Bool) (w : World) (hr0_1 : Kd.C k69 w A0_1 l0_1.length l0_1) (hc0_1 : l0_1.length ≤ c0_1) (hr0_2 : Kd.C k71 w A0_2 l0_2.length l0_2) (hc0_2 : l0_2.length ≤ c0_2) (h : dropperref05_Valid.f k a0_0 l0_1 l0_2 = some r) :
  Calls Tryd.prog 20 #[.agg #[.int .i64 a0_0, .slice A0_1 l0_1.length c0_1, .slice A0_2 l0_2.length c0_2]] w fun e w' => e = .returned (.bool r) ∧ Below w.heap.size w w' := by
 have hu25 := Tryd.underlying25
 have hu69 := Tryd.underlying69
 have hu71 := Tryd.underlying71
 have HR0_1 := Aside0.mk hr0_1
 have HC0_1 := Aside0.mk hc0_1
 clear hr0_1 hc0_1
 have HR0_2 := Aside0.mk hr0_2
 have HC0_2 := Aside0.mk hc0_2
 clear hr0_2 hc0_2
 have HB := Aside0.mk (Below.refl w.heap.size w)
 have H : (if a0_0 < 1 then (dropperref05_Valid.j0 k true a0_0 l0_1 l0_2) else (if a0_0 > 8 then (dropperref05_Valid.j0 k true a0_0 l0_1 l0_2) else (if (l0_1.length : Int) > 10 then (dropperref05_Valid.j0 k true a0_0 l0_1 l0_2) else (dropperref05_Valid.j0 k (decide ((l0_2.length : Int) > 6)) a0_0 l0_1 l0_2)))) = some r := h
 clear h
 have HC2 := Aside0.mk H
 clear H
 go_enter Tryd.func20, Tryd.ntmps20
 go_upto_region 1 with (first | ((with_reducible refine gate_dst (N := 1) rfl ?_); (try (refine gate_guard (by rfl) ?_; dsimp only)); refine box_event ?hg (N := 1) ?hd (cs := #[.int .i64 a0_0, .slice A0_1 l0_1.length c0_1, .slice A0_2 l0_2.length c0_2]) (t := 25) ?hr ?_; (case hd => rfl); (case hg => rfl); (case hr => first | (go_simp; done) | (go_simp; rfl)); intro gb235 hg w3 hbox hb; have n0_ := Aside0.mk (below_step bel hb); have n1_ := Aside0.mk (hbox); have n2_ := Aside0.mk ((by rw [hg]; exact (below_size bel) : w.heap.size ≤ gb235)); have n3_ := n2_; clear HB; have HB := n0_; have BK235 := n1_; have GW235 := n2_; have GE235 := n3_; clear n0_ n1_ n2_ n3_; clear hb hbox hg))
 (try simp only [Act.put, List.setIfInBounds_toArray, List.set_cons_zero, List.set_cons_succ])
 go_cut [26] (fun v26 wc => ∃ (kq : Nat) (x26_1 : Bool), v26 = .bool x26_1 ∧ Aside0 (dropperref05_Valid.j0 kq x26_1 a0_0 l0_1 l0_2 = some r) ∧ Aside0 (kq ≤ k) ∧ Aside0 (wc.heap[gb235]? = some (.cells #[.int .i64 a0_0, (.slice A0_1 l0_1.length c0_1), (.slice A0_2 l0_2.length c0_2)] 25 (0, 0))) ∧ Aside0 (Below w.heap.size w wc))
 case first =>
  have H := HC2.out
  clear HC2
  by_cases c4 : a0_0 < 1
  ·
   rw [if_pos c4] at H
   have c4b0 : decide (a0_0 < 1) = true := decide_eq_true c4
   clear c4
   (first | rw [c4b0] | (simp only [i64_w, i32_w]; rw [c4b0]) | skip)
   have H' := Aside0.mk H
   clear H
   have hcz5_0 := blkc BK235.out 0 (.int .i64 a0_0) rfl
   have hcz5_1 := blkc BK235.out 1 (.slice A0_1 l0_1.length c0_1) rfl
   have hcz5_2 := blkc BK235.out 2 (.slice A0_2 l0_2.length c0_2) rfl
   have hfz5_0 := blk_frozen BK235.out 0
   have hfz5_1 := blk_frozen BK235.out 1
   have hfz5_2 := blk_frozen BK235.out 2
   go_wp2
   go_meet
   case rel => exact ⟨_, (true), rsz, H', ⟨by first | omega | exact Nat.le_refl _⟩, ⟨by (with_reducible repeat (first | refine blk_drewN ?_ _ | refine blk_drew ?_ | refine blk_alloc ?_ _)); exact BK235.out⟩, ⟨by repeat (first | (with_reducible first | exact HB.out | apply below_alloc | apply pw_below_drewN | apply below_drew1 | refine below_set ?_ GE235.out) | exact HB.out)⟩⟩
  ·
   rw [if_neg c4] at H
   have c4b0 : decide (a0_0 < 1) = false := decide_eq_false c4
   clear c4
   (first | rw [c4b0] | (simp only [i64_w, i32_w]; rw [c4b0]) | skip)
   by_cases c6 : a0_0 > 8
   ·
    rw [if_pos c6] at H
    have c6b0 : decide (8 < a0_0) = true := decide_eq_true c6
    clear c6
    have H' := Aside0.mk H
    clear H
    have hcz7_0 := blkc BK235.out 0 (.int .i64 a0_0) rfl
    have hcz7_1 := blkc BK235.out 1 (.slice A0_1 l0_1.length c0_1) rfl
    have hcz7_2 := blkc BK235.out 2 (.slice A0_2 l0_2.length c0_2) rfl
    have hfz7_0 := blk_frozen BK235.out 0
    have hfz7_1 := blk_frozen BK235.out 1
    have hfz7_2 := blk_frozen BK235.out 2
    go_wp2
    go_meet
    case rel => exact ⟨_, (true), rsz, H', ⟨by first | omega | exact Nat.le_refl _⟩, ⟨by (with_reducible repeat (first | refine blk_drewN ?_ _ | refine blk_drew ?_ | refine blk_alloc ?_ _)); exact BK235.out⟩, ⟨by repeat (first | (with_reducible first | exact HB.out | apply below_alloc | apply pw_below_drewN | apply below_drew1 | refine below_set ?_ GE235.out) | exact HB.out)⟩⟩
   ·
    rw [if_neg c6] at H
    have c6b0 : decide (8 < a0_0) = false := decide_eq_false c6
    clear c6
    by_cases c8 : (l0_1.length : Int) > 10
    ·
     rw [if_pos c8] at H
     have c8b0 : decide (10 < (l0_1.length : Int)) = true := decide_eq_true c8
     have c8b1 : decide (10 < l0_1.length) = true := decide_eq_true (by omega)
     clear c8
     have H' := Aside0.mk H
     clear H
     have hcz9_0 := blkc BK235.out 0 (.int .i64 a0_0) rfl
     have hcz9_1 := blkc BK235.out 1 (.slice A0_1 l0_1.length c0_1) rfl
     have hcz9_2 := blkc BK235.out 2 (.slice A0_2 l0_2.length c0_2) rfl
     have hfz9_0 := blk_frozen BK235.out 0
     have hfz9_1 := blk_frozen BK235.out 1
     have hfz9_2 := blk_frozen BK235.out 2
     go_wp2
     go_meet
     case rel => exact ⟨_, (true), rsz, H', ⟨by first | omega | exact Nat.le_refl _⟩, ⟨by (with_reducible repeat (first | refine blk_drewN ?_ _ | refine blk_drew ?_ | refine blk_alloc ?_ _)); exact BK235.out⟩, ⟨by repeat (first | (with_reducible first | exact HB.out | apply below_alloc | apply pw_below_drewN | apply below_drew1 | refine below_set ?_ GE235.out) | exact HB.out)⟩⟩
    ·
     rw [if_neg c8] at H
     have c8b0 : decide (10 < (l0_1.length : Int)) = false := decide_eq_false c8
     have c8b1 : decide (10 < l0_1.length) = false := decide_eq_false (by omega)
     clear c8
     have H' := Aside0.mk H
     clear H
     have hcz10_0 := blkc BK235.out 0 (.int .i64 a0_0) rfl
     have hcz10_1 := blkc BK235.out 1 (.slice A0_1 l0_1.length c0_1) rfl
     have hcz10_2 := blkc BK235.out 2 (.slice A0_2 l0_2.length c0_2) rfl
     have hfz10_0 := blk_frozen BK235.out 0
     have hfz10_1 := blk_frozen BK235.out 1
     have hfz10_2 := blk_frozen BK235.out 2
     go_wp2
     go_meet
     case rel => exact ⟨_, (decide ((l0_2.length : Int) > 6)), rsz, H', ⟨by first | omega | exact Nat.le_refl _⟩, ⟨by (with_reducible repeat (first | refine blk_drewN ?_ _ | refine blk_drew ?_ | refine blk_alloc ?_ _)); exact BK235.out⟩, ⟨by repeat (first | (with_reducible first | exact HB.out | apply below_alloc | apply pw_below_drewN | apply below_drew1 | refine below_set ?_ GE235.out) | exact HB.out)⟩⟩
 case rest =>
  clear HC2
  try clear c2
  try clear p2
  try clear c4
  try clear c4b0
  try clear c6
  try clear c6b0
  try clear c8
  try clear c8b0
  try clear c8b1
  try clear hcz10_0
  try clear hcz10_1
  try clear hcz10_2
  try clear hcz5_0
  try clear hcz5_1
  try clear hcz5_2
  try clear hcz7_0
  try clear hcz7_1
  try clear hcz7_2
  try clear hcz9_0
  try clear hcz9_1
  try clear hcz9_2
  try clear hfz10_0
  try clear hfz10_1
  try clear hfz10_2
  try clear hfz5_0
  try clear hfz5_1
  try clear hfz5_2
  try clear hfz7_0
  try clear hfz7_1
  try clear hfz7_2
  try clear hfz9_0
  try clear hfz9_1
  try clear hfz9_2
  obtain ⟨kq, x26_1, rfl, HA, HJ1, BK235, HB⟩ := hcut
  cases kq with
  | zero => exact absurd HA.out (by simp [dropperref05_Valid.j0])
  | succ kj1 =>
   have H := HA.out
   clear HA
   simp only [dropperref05_Valid.j0] at H
   by_cases c11 : x26_1 = true
   ·
    subst c11
    have H1 : (some false) = some r := by rw [if_pos rfl] at H; exact H
    clear H
    have H := H1
    clear H1
    obtain rfl := Option.some.inj H
    go_wp2
    go_ret
    exact ⟨by first | rfl | (simp [errW_none, errW_some] <;> rfl) | (simp [*, errW_none, errW_some] <;> rfl), by repeat (first | (with_reducible first | exact HB.out | apply below_alloc | apply pw_below_drewN | apply below_drew1 | refine below_set ?_ GE235.out) | exact HB.out)⟩
   ·
    replace c11 := Bool.eq_false_iff.mpr c11
    subst c11
    have H1 : (dropperref05_Valid.l0 kj1 0 a0_0 l0_1 l0_2) = some r := by rw [if_neg (show ¬ (false = true) by decide)] at H; exact H
    clear H
    have H := H1
    clear H1
    have H' := Aside0.mk H
    clear H
    go_wp2
    go_loopg [3] kj1 (fun kq v3 w' => ∃ (x3_2 : Int), v3 = .int .i64 x3_2 ∧ Aside0 (dropperref05_Valid.l0 kq x3_2 a0_0 l0_1 l0_2 = some r) ∧ Aside0 (kq ≤ kj1) ∧ Aside0 (w'.heap[gb235]? = some (.cells #[.int .i64 a0_0, (.slice A0_1 l0_1.length c0_1), (.slice A0_2 l0_2.length c0_2)] 25 (0, 0))) ∧ Aside0 (Below w.heap.size w w'))
    case atStart => exact ⟨(0), rsz, H', ⟨Nat.le_refl _⟩, ⟨by (with_reducible repeat (first | refine blk_drewN ?_ _ | refine blk_drew ?_ | refine blk_alloc ?_ _)); exact BK235.out⟩, ⟨by repeat (first | (with_reducible first | exact HB.out | apply below_alloc | apply pw_below_drewN | apply below_drew1 | refine below_set ?_ GE235.out) | exact HB.out)⟩⟩
    case round =>
     clear H'
     try clear c1
     try clear c2
     try clear p2
     try clear c4
     try clear c4b0
     try clear c6
     try clear c6b0
     try clear c8
     try clear c8b0
     try clear c8b1
     try clear c11
     try clear hcz10_0
     try clear hcz10_1
     try clear hcz10_2
     try clear hcz5_0
     try clear hcz5_1
     try clear hcz5_2
     try clear hcz7_0
     try clear hcz7_1
     try clear hcz7_2
     try clear hcz9_0
     try clear hcz9_1
     try clear hcz9_2
     try clear hfz10_0
     try clear hfz10_1
     try clear hfz10_2
     try clear hfz5_0
     try clear hfz5_1
     try clear hfz5_2
     try clear hfz7_0
     try clear hfz7_1
     try clear hfz7_2
     try clear hfz9_0
     try clear hfz9_1
     try clear hfz9_2
     try clear p2
     obtain ⟨x3_2, rfl, HA, HK2, BK235, HB⟩ := hrel
     cases gk with
     | zero => exact absurd HA.out (by simp [dropperref05_Valid.l0])
     | succ k2 =>
      have H := HA.out
      clear HA
      simp only [dropperref05_Valid.l0] at H
      by_cases c12 : x3_2 < (l0_1.length : Int)
      ·
       rw [if_pos c12] at H
       have c12b0 : decide (x3_2 < (l0_1.length : Int)) = true := decide_eq_true c12
       clear c12
       by_cases c13 : 0 ≤ x3_2
       ·
        rw [if_pos c13] at H
        have c13b0 : decide (0 ≤ x3_2) = true := decide_eq_true c13
        clear c13
        replace H := Option.bind_eq_some_iff.mp H
        obtain ⟨t238, A140, H⟩ := H
        replace H : (if t238 = true then ((dropperref05_section.f a0_0 l0_1 l0_2 ((rd_T69 l0_1 x3_2).f1)).bind fun t239 => (if t239 = true then (if ((rd_T69 l0_1 x3_2).f0) = ((rd_T69 l0_1 x3_2).f1) then (some false) else (dropperref05_Valid.l0 k2 (wrap64 (x3_2 + 1)) a0_0 l0_1 l0_2)) else (some false))) else (some false)) = some r := H
        have A14 := Aside0.mk A140
        clear A140
        by_cases c15 : t238 = true
        ·
         subst c15
         have H1 : ((dropperref05_section.f a0_0 l0_1 l0_2 ((rd_T69 l0_1 x3_2).f1)).bind fun t239 => (if t239 = true then (if ((rd_T69 l0_1 x3_2).f0) = ((rd_T69 l0_1 x3_2).f1) then (some false) else (dropperref05_Valid.l0 k2 (wrap64 (x3_2 + 1)) a0_0 l0_1 l0_2)) else (some false))) = some r := by rw [if_pos rfl] at H; exact H
         clear H
         have H := H1
         clear H1
         replace H := Option.bind_eq_some_iff.mp H
         obtain ⟨t239, A160, H⟩ := H
         replace H : (if t239 = true then (if ((rd_T69 l0_1 x3_2).f0) = ((rd_T69 l0_1 x3_2).f1) then (some false) else (dropperref05_Valid.l0 k2 (wrap64 (x3_2 + 1)) a0_0 l0_1 l0_2)) else (some false)) = some r := H
         have A16 := Aside0.mk A160
         clear A160
         by_cases c17 : t239 = true
         ·
          subst c17
          have H1 : (if ((rd_T69 l0_1 x3_2).f0) = ((rd_T69 l0_1 x3_2).f1) then (some false) else (dropperref05_Valid.l0 k2 (wrap64 (x3_2 + 1)) a0_0 l0_1 l0_2)) = some r := by rw [if_pos rfl] at H; exact H
          clear H
          have H := H1
          clear H1
          by_cases c18 : ((rd_T69 l0_1 x3_2).f0) = ((rd_T69 l0_1 x3_2).f1)
          ·
           rw [if_pos c18] at H
           have c18b0 : (((rd_T69 l0_1 x3_2).f0) == ((rd_T69 l0_1 x3_2).f1)) = true := beq_iff_eq.mpr c18
           have c18b1 : (((rd_T69 l0_1 x3_2).f0) != ((rd_T69 l0_1 x3_2).f1)) = false := bne_eq_false_iff_eq.mpr c18
           clear c18
           obtain rfl := Option.some.inj H
           have hcz19_0 := blkc BK235.out 0 (.int .i64 a0_0) rfl
           have hcz19_1 := blkc BK235.out 1 (.slice A0_1 l0_1.length c0_1) rfl
           have hcz19_2 := blkc BK235.out 2 (.slice A0_2 l0_2.length c0_2) rfl
           have hfz19_0 := blk_frozen BK235.out 0
           have hfz19_1 := blk_frozen BK235.out 1
           have hfz19_2 := blk_frozen BK235.out 2
           have p236 : 0 ≤ (x3_2 : Int) := of_decide_eq_true asz
           have q236 : x3_2 < (l0_1.length : Int) := of_decide_eq_true asz
           obtain ⟨ad236, e236, hx236_0, hx236_1⟩ := at_T69 HR0_1.out x3_2 p236 q236
           cases e236
           replace hx236_0 := (HB.out.cell (World.block_lt_of_cell? w _ hx236_0)).trans hx236_0
           replace hx236_1 := (HB.out.cell (World.block_lt_of_cell? w _ hx236_1)).trans hx236_1
           replace p236 := eq_true p236
           replace q236 := eq_true q236
           go_wp2_with (first | ((with_reducible refine gate_dst (N := 4) rfl ?_); (try (refine gate_guard (by rfl) ?_; dsimp only)); refine box_event ?hg (N := 4) ?hd (cs := #[.int .i64 0, .int .i64 0]) (t := 69) ?hr ?_; (case hd => rfl); (case hg => rfl); (case hr => first | (go_simp; done) | (go_simp; rfl)); intro gb237 hg w20 hbox hb; have n0_ := Aside0.mk (blk_below (g := gb235) blkz hb); have n1_ := Aside0.mk (below_step bel hb); have n2_ := Aside0.mk (hbox); have n3_ := Aside0.mk ((by rw [hg]; exact (below_size bel) : w.heap.size ≤ gb237)); have n4_ := n3_; have n5_ := Aside0.mk ((by rw [hg]; exact Nat.ne_of_lt (blk_lt (g := gb235) (o := .cells #[.int .i64 a0_0, .slice (some ad236) l0_1.length c0_1, .slice A0_2 l0_2.length c0_2] 25 (0, 0)) blkz) : gb235 ≠ gb237)); have n6_ := Aside0.mk ((by rw [hg]; exact Nat.ne_of_gt (blk_lt (g := gb235) (o := .cells #[.int .i64 a0_0, .slice (some ad236) l0_1.length c0_1, .slice A0_2 l0_2.length c0_2] 25 (0, 0)) blkz) : gb237 ≠ gb235)); clear BK235; clear HB; have BK235 := n0_; have HB := n1_; have BK237 := n2_; have GW237 := n3_; have GE237 := n4_; have NB235_237 := n5_; have NB237_235 := n6_; clear n0_ n1_ n2_ n3_ n4_ n5_ n6_; clear hb hbox hg; have hnb21 := NB237_235.out; have hnc21 := NB235_237.out; have hcz22_0 := blkc BK237.out 0 (.int .i64 0) rfl; have hcz22_1 := blkc BK237.out 1 (.int .i64 0) rfl; have hfz22_0 := blk_frozen BK237.out 0; have hfz22_1 := blk_frozen BK237.out 1; have hcz23_0 := blkc BK235.out 0 (.int .i64 a0_0) rfl; have hcz23_1 := blkc BK235.out 1 (.slice (some ad236) l0_1.length c0_1) rfl; have hcz23_2 := blkc BK235.out 2 (.slice A0_2 l0_2.length c0_2) rfl; have hfz23_0 := blk_frozen BK235.out 0; have hfz23_1 := blk_frozen BK235.out 1; have hfz23_2 := blk_frozen BK235.out 2) | ((with_reducible refine gate_callee (f := 58) rfl ?_); refine goesL_ (some 42) rfl rfl Tryd.func58 (by kernel_rfl) rfl #[.agg #[.int .i64 a0_0, .slice (some ad236) l0_1.length c0_1, .slice A0_2 l0_2.length c0_2], .int .i64 ((rd_T69 l0_1 x3_2).f0)] rfl mapz ?_; (with_reducible refine (dropperref05_section.calls a0_0 _ _ l0_1 _ _ l0_2 ((rd_T69 l0_1 x3_2).f0) true _ ?side1 ?side2 ?side3 ?side4 A14.out).mono ?_); (case side1 => exact cbz HR0_1); (case side2 => exact HC0_1.out); (case side3 => exact cbz HR0_2); (case side4 => exact HC0_2.out); rintro e w24 ⟨rfl, hb⟩; refine ⟨_, rfl, ?_⟩; have n0_ := Aside0.mk (blk_below (g := gb235) (o := .cells #[.int .i64 a0_0, .slice (some ad236) l0_1.length c0_1, .slice A0_2 l0_2.length c0_2] 25 (0, 0)) (by (with_reducible repeat (first | refine blk_drewN ?_ _ | refine blk_drew ?_ | refine blk_alloc ?_ _)); refine blk_far ?_ NB235_237.out _; (with_reducible repeat (first | refine blk_drewN ?_ _ | refine blk_drew ?_ | refine blk_alloc ?_ _)); refine blk_far ?_ NB235_237.out _; (with_reducible repeat (first | refine blk_drewN ?_ _ | refine blk_drew ?_ | refine blk_alloc ?_ _)); exact BK235.out) hb); have n1_ := Aside0.mk (blk_below (g := gb237) (o := .cells #[.int .i64 ((rd_T69 l0_1 x3_2).f0), .int .i64 ((rd_T69 l0_1 x3_2).f1)] 69 (0, 0)) (by (with_reducible repeat (first | refine blk_drewN ?_ _ | refine blk_drew ?_ | refine blk_alloc ?_ _)); refine blk_put (cs := #[.int .i64 ((rd_T69 l0_1 x3_2).f0), .int .i64 0]) ?_ 1 _ rfl; (with_reducible repeat (first | refine blk_drewN ?_ _ | refine blk_drew ?_ | refine blk_alloc ?_ _)); refine blk_put (cs := #[.int .i64 0, .int .i64 0]) ?_ 0 _ rfl; (with_reducible repeat (first | refine blk_drewN ?_ _ | refine blk_drew ?_ | refine blk_alloc ?_ _)); exact BK237.out) hb); have n2_ := Aside0.mk (below_step bel hb); clear BK235; clear BK237; clear HB; have BK235 := n0_; have BK237 := n1_; have HB := n2_; clear n0_ n1_ n2_; (try clear hb); (try clear hb2); (try clear hk); (try clear hi); have hcz25_0 := blkc BK235.out 0 (.int .i64 a0_0) rfl; have hcz25_1 := blkc BK235.out 1 (.slice (some ad236) l0_1.length c0_1) rfl; have hcz25_2 := blkc BK235.out 2 (.slice A0_2 l0_2.length c0_2) rfl; have hfz25_0 := blk_frozen BK235.out 0; have hfz25_1 := blk_frozen BK235.out 1; have hfz25_2 := blk_frozen BK235.out 2; have hcz26_0 := blkc BK237.out 0 (.int .i64 ((rd_T69 l0_1 x3_2).f0)) rfl; have hcz26_1 := blkc BK237.out 1 (.int .i64 ((rd_T69 l0_1 x3_2).f1)) rfl; have hfz26_0 := blk_frozen BK237.out 0; have hfz26_1 := blk_frozen BK237.out 1) | (go_at_call 58; (with_reducible refine (dropperref05_section.calls a0_0 _ _ l0_1 _ _ l0_2 ((rd_T69 l0_1 x3_2).f1) true _ ?side1 ?side2 ?side3 ?side4 A16.out).mono ?_); (case side1 => exact cbz HR0_1); (case side2 => exact HC0_1.out); (case side3 => exact cbz HR0_2); (case side4 => exact HC0_2.out); rintro e w27 ⟨rfl, hb⟩; have n0_ := Aside0.mk (blk_below (g := gb235) blkz hb); have n1_ := Aside0.mk (blk_below (g := gb237) blkz hb); have n2_ := Aside0.mk (below_step bel hb); clear BK235; clear BK237; clear HB; have BK235 := n0_; have BK237 := n1_; have HB := n2_; clear n0_ n1_ n2_; (try clear hb); (try clear hb2); (try clear hk); (try clear hi); have hcz28_0 := blkc BK237.out 0 (.int .i64 ((rd_T69 l0_1 x3_2).f0)) rfl; have hcz28_1 := blkc BK237.out 1 (.int .i64 ((rd_T69 l0_1 x3_2).f1)) rfl; have hfz28_0 := blk_frozen BK237.out 0; have hfz28_1 := blk_frozen BK237.out 1))
           go_ret
           exact ⟨by first | rfl | (simp [errW_none, errW_some] <;> rfl) | (simp [*, errW_none, errW_some] <;> rfl), by repeat (first | (with_reducible first | exact HB.out | apply below_alloc | apply pw_below_drewN | apply below_drew1 | refine below_set ?_ GE235.out | refine below_set ?_ GE237.out) | exact HB.out)⟩
          ·
           rw [if_neg c18] at H
           have c18b0 : (((rd_T69 l0_1 x3_2).f0) == ((rd_T69 l0_1 x3_2).f1)) = false := beq_eq_false_iff_ne.mpr c18
           have c18b1 : (((rd_T69 l0_1 x3_2).f0) != ((rd_T69 l0_1 x3_2).f1)) = true := bne_iff_ne.mpr c18
           have H' := Aside0.mk H
           clear H
           have hcz29_0 := blkc BK235.out 0 (.int .i64 a0_0) rfl
           have hcz29_1 := blkc BK235.out 1 (.slice A0_1 l0_1.length c0_1) rfl
           have hcz29_2 := blkc BK235.out 2 (.slice A0_2 l0_2.length c0_2) rfl
           have hfz29_0 := blk_frozen BK235.out 0
           have hfz29_1 := blk_frozen BK235.out 1
           have hfz29_2 := blk_frozen BK235.out 2
           have p236 : 0 ≤ (x3_2 : Int) := of_decide_eq_true asz
           have q236 : x3_2 < (l0_1.length : Int) := of_decide_eq_true asz
           obtain ⟨ad236, e236, hx236_0, hx236_1⟩ := at_T69 HR0_1.out x3_2 p236 q236
           cases e236
           replace hx236_0 := (HB.out.cell (World.block_lt_of_cell? w _ hx236_0)).trans hx236_0
           replace hx236_1 := (HB.out.cell (World.block_lt_of_cell? w _ hx236_1)).trans hx236_1
           replace p236 := eq_true p236
           replace q236 := eq_true q236
           go_wp2_with (first | ((with_reducible refine gate_dst (N := 4) rfl ?_); (try (refine gate_guard (by rfl) ?_; dsimp only)); refine box_event ?hg (N := 4) ?hd (cs := #[.int .i64 0, .int .i64 0]) (t := 69) ?hr ?_; (case hd => rfl); (case hg => rfl); (case hr => first | (go_simp; done) | (go_simp; rfl)); intro gb237 hg w30 hbox hb; have n0_ := Aside0.mk (blk_below (g := gb235) blkz hb); have n1_ := Aside0.mk (below_step bel hb); have n2_ := Aside0.mk (hbox); have n3_ := Aside0.mk ((by rw [hg]; exact (below_size bel) : w.heap.size ≤ gb237)); have n4_ := n3_; have n5_ := Aside0.mk ((by rw [hg]; exact Nat.ne_of_lt (blk_lt (g := gb235) (o := .cells #[.int .i64 a0_0, .slice (some ad236) l0_1.length c0_1, .slice A0_2 l0_2.length c0_2] 25 (0, 0)) blkz) : gb235 ≠ gb237)); have n6_ := Aside0.mk ((by rw [hg]; exact Nat.ne_of_gt (blk_lt (g := gb235) (o := .cells #[.int .i64 a0_0, .slice (some ad236) l0_1.length c0_1, .slice A0_2 l0_2.length c0_2] 25 (0, 0)) blkz) : gb237 ≠ gb235)); clear BK235; clear HB; have BK235 := n0_; have HB := n1_; have BK237 := n2_; have GW237 := n3_; have GE237 := n4_; have NB235_237 := n5_; have NB237_235 := n6_; clear n0_ n1_ n2_ n3_ n4_ n5_ n6_; clear hb hbox hg; have hnb31 := NB237_235.out; have hnc31 := NB235_237.out; have hcz32_0 := blkc BK237.out 0 (.int .i64 0) rfl; have hcz32_1 := blkc BK237.out 1 (.int .i64 0) rfl; have hfz32_0 := blk_frozen BK237.out 0; have hfz32_1 := blk_frozen BK237.out 1; have hcz33_0 := blkc BK235.out 0 (.int .i64 a0_0) rfl; have hcz33_1 := blkc BK235.out 1 (.slice (some ad236) l0_1.length c0_1) rfl; have hcz33_2 := blkc BK235.out 2 (.slice A0_2 l0_2.length c0_2) rfl; have hfz33_0 := blk_frozen BK235.out 0; have hfz33_1 := blk_frozen BK235.out 1; have hfz33_2 := blk_frozen BK235.out 2) | ((with_reducible refine gate_callee (f := 58) rfl ?_); refine goesL_ (some 42) rfl rfl Tryd.func58 (by kernel_rfl) rfl #[.agg #[.int .i64 a0_0, .slice (some ad236) l0_1.length c0_1, .slice A0_2 l0_2.length c0_2], .int .i64 ((rd_T69 l0_1 x3_2).f0)] rfl mapz ?_; (with_reducible refine (dropperref05_section.calls a0_0 _ _ l0_1 _ _ l0_2 ((rd_T69 l0_1 x3_2).f0) true _ ?side1 ?side2 ?side3 ?side4 A14.out).mono ?_); (case side1 => exact cbz HR0_1); (case side2 => exact HC0_1.out); (case side3 => exact cbz HR0_2); (case side4 => exact HC0_2.out); rintro e w34 ⟨rfl, hb⟩; refine ⟨_, rfl, ?_⟩; have n0_ := Aside0.mk (blk_below (g := gb235) (o := .cells #[.int .i64 a0_0, .slice (some ad236) l0_1.length c0_1, .slice A0_2 l0_2.length c0_2] 25 (0, 0)) (by (with_reducible repeat (first | refine blk_drewN ?_ _ | refine blk_drew ?_ | refine blk_alloc ?_ _)); refine blk_far ?_ NB235_237.out _; (with_reducible repeat (first | refine blk_drewN ?_ _ | refine blk_drew ?_ | refine blk_alloc ?_ _)); refine blk_far ?_ NB235_237.out _; (with_reducible repeat (first | refine blk_drewN ?_ _ | refine blk_drew ?_ | refine blk_alloc ?_ _)); exact BK235.out) hb); have n1_ := Aside0.mk (blk_below (g := gb237) (o := .cells #[.int .i64 ((rd_T69 l0_1 x3_2).f0), .int .i64 ((rd_T69 l0_1 x3_2).f1)] 69 (0, 0)) (by (with_reducible repeat (first | refine blk_drewN ?_ _ | refine blk_drew ?_ | refine blk_alloc ?_ _)); refine blk_put (cs := #[.int .i64 ((rd_T69 l0_1 x3_2).f0), .int .i64 0]) ?_ 1 _ rfl; (with_reducible repeat (first | refine blk_drewN ?_ _ | refine blk_drew ?_ | refine blk_alloc ?_ _)); refine blk_put (cs := #[.int .i64 0, .int .i64 0]) ?_ 0 _ rfl; (with_reducible repeat (first | refine blk_drewN ?_ _ | refine blk_drew ?_ | refine blk_alloc ?_ _)); exact BK237.out) hb); have n2_ := Aside0.mk (below_step bel hb); clear BK235; clear BK237; clear HB; have BK235 := n0_; have BK237 := n1_; have HB := n2_; clear n0_ n1_ n2_; (try clear hb); (try clear hb2); (try clear hk); (try clear hi); have hcz35_0 := blkc BK235.out 0 (.int .i64 a0_0) rfl; have hcz35_1 := blkc BK235.out 1 (.slice (some ad236) l0_1.length c0_1) rfl; have hcz35_2 := blkc BK235.out 2 (.slice A0_2 l0_2.length c0_2) rfl; have hfz35_0 := blk_frozen BK235.out 0; have hfz35_1 := blk_frozen BK235.out 1; have hfz35_2 := blk_frozen BK235.out 2; have hcz36_0 := blkc BK237.out 0 (.int .i64 ((rd_T69 l0_1 x3_2).f0)) rfl; have hcz36_1 := blkc BK237.out 1 (.int .i64 ((rd_T69 l0_1 x3_2).f1)) rfl; have hfz36_0 := blk_frozen BK237.out 0; have hfz36_1 := blk_frozen BK237.out 1) | (go_at_call 58; (with_reducible refine (dropperref05_section.calls a0_0 _ _ l0_1 _ _ l0_2 ((rd_T69 l0_1 x3_2).f1) true _ ?side1 ?side2 ?side3 ?side4 A16.out).mono ?_); (case side1 => exact cbz HR0_1); (case side2 => exact HC0_1.out); (case side3 => exact cbz HR0_2); (case side4 => exact HC0_2.out); rintro e w37 ⟨rfl, hb⟩; have n0_ := Aside0.mk (blk_below (g := gb235) blkz hb); have n1_ := Aside0.mk (blk_below (g := gb237) blkz hb); have n2_ := Aside0.mk (below_step bel hb); clear BK235; clear BK237; clear HB; have BK235 := n0_; have BK237 := n1_; have HB := n2_; clear n0_ n1_ n2_; (try clear hb); (try clear hb2); (try clear hk); (try clear hi); have hcz38_0 := blkc BK237.out 0 (.int .i64 ((rd_T69 l0_1 x3_2).f0)) rfl; have hcz38_1 := blkc BK237.out 1 (.int .i64 ((rd_T69 l0_1 x3_2).f1)) rfl; have hfz38_0 := blk_frozen BK237.out 0; have hfz38_1 := blk_frozen BK237.out 1))
           go_roundg k2
           case measure => have := HJ1.out; have := HK2.out; omega
           case rel => exact ⟨(wrap64 (x3_2 + 1)), rsz, H', ⟨by have := HJ1.out; have := HK2.out; omega⟩, ⟨by (with_reducible repeat (first | refine blk_drewN ?_ _ | refine blk_drew ?_ | refine blk_alloc ?_ _)); exact BK235.out⟩, ⟨by repeat (first | (with_reducible first | exact HB.out | apply below_alloc | apply pw_below_drewN | apply below_drew1 | refine below_set ?_ GE235.out | refine below_set ?_ GE237.out) | exact HB.out)⟩⟩
         ·
          replace c17 := Bool.eq_false_iff.mpr c17
          subst c17
          have H1 : (some false) = some r := by rw [if_neg (show ¬ (false = true) by decide)] at H; exact H
          clear H
          have H := H1
          clear H1
          obtain rfl := Option.some.inj H
          have hcz39_0 := blkc BK235.out 0 (.int .i64 a0_0) rfl
          have hcz39_1 := blkc BK235.out 1 (.slice A0_1 l0_1.length c0_1) rfl
          have hcz39_2 := blkc BK235.out 2 (.slice A0_2 l0_2.length c0_2) rfl
          have hfz39_0 := blk_frozen BK235.out 0
          have hfz39_1 := blk_frozen BK235.out 1
          have hfz39_2 := blk_frozen BK235.out 2
          have p236 : 0 ≤ (x3_2 : Int) := of_decide_eq_true asz
          have q236 : x3_2 < (l0_1.length : Int) := of_decide_eq_true asz
          obtain ⟨ad236, e236, hx236_0, hx236_1⟩ := at_T69 HR0_1.out x3_2 p236 q236
          cases e236
          replace hx236_0 := (HB.out.cell (World.block_lt_of_cell? w _ hx236_0)).trans hx236_0
          replace hx236_1 := (HB.out.cell (World.block_lt_of_cell? w _ hx236_1)).trans hx236_1
          replace p236 := eq_true p236
          replace q236 := eq_true q236
          go_wp2_with (first | ((with_reducible refine gate_dst (N := 4) rfl ?_); (try (refine gate_guard (by rfl) ?_; dsimp only)); refine box_event ?hg (N := 4) ?hd (cs := #[.int .i64 0, .int .i64 0]) (t := 69) ?hr ?_; (case hd => rfl); (case hg => rfl); (case hr => first | (go_simp; done) | (go_simp; rfl)); intro gb237 hg w40 hbox hb; have n0_ := Aside0.mk (blk_below (g := gb235) blkz hb); have n1_ := Aside0.mk (below_step bel hb); have n2_ := Aside0.mk (hbox); have n3_ := Aside0.mk ((by rw [hg]; exact (below_size bel) : w.heap.size ≤ gb237)); have n4_ := n3_; have n5_ := Aside0.mk ((by rw [hg]; exact Nat.ne_of_lt (blk_lt (g := gb235) (o := .cells #[.int .i64 a0_0, .slice (some ad236) l0_1.length c0_1, .slice A0_2 l0_2.length c0_2] 25 (0, 0)) blkz) : gb235 ≠ gb237)); have n6_ := Aside0.mk ((by rw [hg]; exact Nat.ne_of_gt (blk_lt (g := gb235) (o := .cells #[.int .i64 a0_0, .slice (some ad236) l0_1.length c0_1, .slice A0_2 l0_2.length c0_2] 25 (0, 0)) blkz) : gb237 ≠ gb235)); clear BK235; clear HB; have BK235 := n0_; have HB := n1_; have BK237 := n2_; have GW237 := n3_; have GE237 := n4_; have NB235_237 := n5_; have NB237_235 := n6_; clear n0_ n1_ n2_ n3_ n4_ n5_ n6_; clear hb hbox hg; have hnb41 := NB237_235.out; have hnc41 := NB235_237.out; have hcz42_0 := blkc BK237.out 0 (.int .i64 0) rfl; have hcz42_1 := blkc BK237.out 1 (.int .i64 0) rfl; have hfz42_0 := blk_frozen BK237.out 0; have hfz42_1 := blk_frozen BK237.out 1; have hcz43_0 := blkc BK235.out 0 (.int .i64 a0_0) rfl; have hcz43_1 := blkc BK235.out 1 (.slice (some ad236) l0_1.length c0_1) rfl; have hcz43_2 := blkc BK235.out 2 (.slice A0_2 l0_2.length c0_2) rfl; have hfz43_0 := blk_frozen BK235.out 0; have hfz43_1 := blk_frozen BK235.out 1; have hfz43_2 := blk_frozen BK235.out 2) | ((with_reducible refine gate_callee (f := 58) rfl ?_); refine goesL_ (some 42) rfl rfl Tryd.func58 (by kernel_rfl) rfl #[.agg #[.int .i64 a0_0, .slice (some ad236) l0_1.length c0_1, .slice A0_2 l0_2.length c0_2], .int .i64 ((rd_T69 l0_1 x3_2).f0)] rfl mapz ?_; (with_reducible refine (dropperref05_section.calls a0_0 _ _ l0_1 _ _ l0_2 ((rd_T69 l0_1 x3_2).f0) true _ ?side1 ?side2 ?side3 ?side4 A14.out).mono ?_); (case side1 => exact cbz HR0_1); (case side2 => exact HC0_1.out); (case side3 => exact cbz HR0_2); (case side4 => exact HC0_2.out); rintro e w44 ⟨rfl, hb⟩; refine ⟨_, rfl, ?_⟩; have n0_ := Aside0.mk (blk_below (g := gb235) (o := .cells #[.int .i64 a0_0, .slice (some ad236) l0_1.length c0_1, .slice A0_2 l0_2.length c0_2] 25 (0, 0)) (by (with_reducible repeat (first | refine blk_drewN ?_ _ | refine blk_drew ?_ | refine blk_alloc ?_ _)); refine blk_far ?_ NB235_237.out _; (with_reducible repeat (first | refine blk_drewN ?_ _ | refine blk_drew ?_ | refine blk_alloc ?_ _)); refine blk_far ?_ NB235_237.out _; (with_reducible repeat (first | refine blk_drewN ?_ _ | refine blk_drew ?_ | refine blk_alloc ?_ _)); exact BK235.out) hb); have n1_ := Aside0.mk (blk_below (g := gb237) (o := .cells #[.int .i64 ((rd_T69 l0_1 x3_2).f0), .int .i64 ((rd_T69 l0_1 x3_2).f1)] 69 (0, 0)) (by (with_reducible repeat (first | refine blk_drewN ?_ _ | refine blk_drew ?_ | refine blk_alloc ?_ _)); refine blk_put (cs := #[.int .i64 ((rd_T69 l0_1 x3_2).f0), .int .i64 0]) ?_ 1 _ rfl; (with_reducible repeat (first | refine blk_drewN ?_ _ | refine blk_drew ?_ | refine blk_alloc ?_ _)); refine blk_put (cs := #[.int .i64 0, .int .i64 0]) ?_ 0 _ rfl; (with_reducible repeat (first | refine blk_drewN ?_ _ | refine blk_drew ?_ | refine blk_alloc ?_ _)); exact BK237.out) hb); have n2_ := Aside0.mk (below_step bel hb); clear BK235; clear BK237; clear HB; have BK235 := n0_; have BK237 := n1_; have HB := n2_; clear n0_ n1_ n2_; (try clear hb); (try clear hb2); (try clear hk); (try clear hi); have hcz45_0 := blkc BK235.out 0 (.int .i64 a0_0) rfl; have hcz45_1 := blkc BK235.out 1 (.slice (some ad236) l0_1.length c0_1) rfl; have hcz45_2 := blkc BK235.out 2 (.slice A0_2 l0_2.length c0_2) rfl; have hfz45_0 := blk_frozen BK235.out 0; have hfz45_1 := blk_frozen BK235.out 1; have hfz45_2 := blk_frozen BK235.out 2; have hcz46_0 := blkc BK237.out 0 (.int .i64 ((rd_T69 l0_1 x3_2).f0)) rfl; have hcz46_1 := blkc BK237.out 1 (.int .i64 ((rd_T69 l0_1 x3_2).f1)) rfl; have hfz46_0 := blk_frozen BK237.out 0; have hfz46_1 := blk_frozen BK237.out 1) | (go_at_call 58; (with_reducible refine (dropperref05_section.calls a0_0 _ _ l0_1 _ _ l0_2 ((rd_T69 l0_1 x3_2).f1) false _ ?side1 ?side2 ?side3 ?side4 A16.out).mono ?_); (case side1 => exact cbz HR0_1); (case side2 => exact HC0_1.out); (case side3 => exact cbz HR0_2); (case side4 => exact HC0_2.out); rintro e w47 ⟨rfl, hb⟩; have n0_ := Aside0.mk (blk_below (g := gb235) blkz hb); have n1_ := Aside0.mk (blk_below (g := gb237) blkz hb); have n2_ := Aside0.mk (below_step bel hb); clear BK235; clear BK237; clear HB; have BK235 := n0_; have BK237 := n1_; have HB := n2_; clear n0_ n1_ n2_; (try clear hb); (try clear hb2); (try clear hk); (try clear hi)))
          go_ret
          exact ⟨by first | rfl | (simp [errW_none, errW_some] <;> rfl) | (simp [*, errW_none, errW_some] <;> rfl), by repeat (first | (with_reducible first | exact HB.out | apply below_alloc | apply pw_below_drewN | apply below_drew1 | refine below_set ?_ GE235.out | refine below_set ?_ GE237.out) | exact HB.out)⟩
        ·
         replace c15 := Bool.eq_false_iff.mpr c15
         subst c15
         have H1 : (some false) = some r := by rw [if_neg (show ¬ (false = true) by decide)] at H; exact H
         clear H
         have H := H1
         clear H1
         obtain rfl := Option.some.inj H
         have hcz48_0 := blkc BK235.out 0 (.int .i64 a0_0) rfl
         have hcz48_1 := blkc BK235.out 1 (.slice A0_1 l0_1.length c0_1) rfl
         have hcz48_2 := blkc BK235.out 2 (.slice A0_2 l0_2.length c0_2) rfl
         have hfz48_0 := blk_frozen BK235.out 0
         have hfz48_1 := blk_frozen BK235.out 1
         have hfz48_2 := blk_frozen BK235.out 2
         have p236 : 0 ≤ (x3_2 : Int) := of_decide_eq_true asz
         have q236 : x3_2 < (l0_1.length : Int) := of_decide_eq_true asz
         obtain ⟨ad236, e236, hx236_0, hx236_1⟩ := at_T69 HR0_1.out x3_2 p236 q236
         cases e236
         replace hx236_0 := (HB.out.cell (World.block_lt_of_cell? w _ hx236_0)).trans hx236_0
         replace hx236_1 := (HB.out.cell (World.block_lt_of_cell? w _ hx236_1)).trans hx236_1
         replace p236 := eq_true p236
         replace q236 := eq_true q236
         go_wp2_with (first | ((with_reducible refine gate_dst (N := 4) rfl ?_); (try (refine gate_guard (by rfl) ?_; dsimp only)); refine box_event ?hg (N := 4) ?hd (cs := #[.int .i64 0, .int .i64 0]) (t := 69) ?hr ?_; (case hd => rfl); (case hg => rfl); (case hr => first | (go_simp; done) | (go_simp; rfl)); intro gb237 hg w49 hbox hb; have n0_ := Aside0.mk (blk_below (g := gb235) blkz hb); have n1_ := Aside0.mk (below_step bel hb); have n2_ := Aside0.mk (hbox); have n3_ := Aside0.mk ((by rw [hg]; exact (below_size bel) : w.heap.size ≤ gb237)); have n4_ := n3_; have n5_ := Aside0.mk ((by rw [hg]; exact Nat.ne_of_lt (blk_lt (g := gb235) (o := .cells #[.int .i64 a0_0, .slice (some ad236) l0_1.length c0_1, .slice A0_2 l0_2.length c0_2] 25 (0, 0)) blkz) : gb235 ≠ gb237)); have n6_ := Aside0.mk ((by rw [hg]; exact Nat.ne_of_gt (blk_lt (g := gb235) (o := .cells #[.int .i64 a0_0, .slice (some ad236) l0_1.length c0_1, .slice A0_2 l0_2.length c0_2] 25 (0, 0)) blkz) : gb237 ≠ gb235)); clear BK235; clear HB; have BK235 := n0_; have HB := n1_; have BK237 := n2_; have GW237 := n3_; have GE237 := n4_; have NB235_237 := n5_; have NB237_235 := n6_; clear n0_ n1_ n2_ n3_ n4_ n5_ n6_; clear hb hbox hg; have hnb50 := NB237_235.out; have hnc50 := NB235_237.out; have hcz51_0 := blkc BK237.out 0 (.int .i64 0) rfl; have hcz51_1 := blkc BK237.out 1 (.int .i64 0) rfl; have hfz51_0 := blk_frozen BK237.out 0; have hfz51_1 := blk_frozen BK237.out 1; have hcz52_0 := blkc BK235.out 0 (.int .i64 a0_0) rfl; have hcz52_1 := blkc BK235.out 1 (.slice (some ad236) l0_1.length c0_1) rfl; have hcz52_2 := blkc BK235.out 2 (.slice A0_2 l0_2.length c0_2) rfl; have hfz52_0 := blk_frozen BK235.out 0; have hfz52_1 := blk_frozen BK235.out 1; have hfz52_2 := blk_frozen BK235.out 2) | ((with_reducible refine gate_callee (f := 58) rfl ?_); refine goesL_ (some 42) rfl rfl Tryd.func58 (by kernel_rfl) rfl #[.agg #[.int .i64 a0_0, .slice (some ad236) l0_1.length c0_1, .slice A0_2 l0_2.length c0_2], .int .i64 ((rd_T69 l0_1 x3_2).f0)] rfl mapz ?_; (with_reducible refine (dropperref05_section.calls a0_0 _ _ l0_1 _ _ l0_2 ((rd_T69 l0_1 x3_2).f0) false _ ?side1 ?side2 ?side3 ?side4 A14.out).mono ?_); (case side1 => exact cbz HR0_1); (case side2 => exact HC0_1.out); (case side3 => exact cbz HR0_2); (case side4 => exact HC0_2.out); rintro e w53 ⟨rfl, hb⟩; refine ⟨_, rfl, ?_⟩; have n0_ := Aside0.mk (blk_below (g := gb235) (o := .cells #[.int .i64 a0_0, .slice (some ad236) l0_1.length c0_1, .slice A0_2 l0_2.length c0_2] 25 (0, 0)) (by (with_reducible repeat (first | refine blk_drewN ?_ _ | refine blk_drew ?_ | refine blk_alloc ?_ _)); refine blk_far ?_ NB235_237.out _; (with_reducible repeat (first | refine blk_drewN ?_ _ | refine blk_drew ?_ | refine blk_alloc ?_ _)); refine blk_far ?_ NB235_237.out _; (with_reducible repeat (first | refine blk_drewN ?_ _ | refine blk_drew ?_ | refine blk_alloc ?_ _)); exact BK235.out) hb); have n1_ := Aside0.mk (blk_below (g := gb237) (o := .cells #[.int .i64 ((rd_T69 l0_1 x3_2).f0), .int .i64 ((rd_T69 l0_1 x3_2).f1)] 69 (0, 0)) (by (with_reducible repeat (first | refine blk_drewN ?_ _ | refine blk_drew ?_ | refine blk_alloc ?_ _)); refine blk_put (cs := #[.int .i64 ((rd_T69 l0_1 x3_2).f0), .int .i64 0]) ?_ 1 _ rfl; (with_reducible repeat (first | refine blk_drewN ?_ _ | refine blk_drew ?_ | refine blk_alloc ?_ _)); refine blk_put (cs := #[.int .i64 0, .int .i64 0]) ?_ 0 _ rfl; (with_reducible repeat (first | refine blk_drewN ?_ _ | refine blk_drew ?_ | refine blk_alloc ?_ _)); exact BK237.out) hb); have n2_ := Aside0.mk (below_step bel hb); clear BK235; clear BK237; clear HB; have BK235 := n0_; have BK237 := n1_; have HB := n2_; clear n0_ n1_ n2_; (try clear hb); (try clear hb2); (try clear hk); (try clear hi)))
         go_ret
         exact ⟨by first | rfl | (simp [errW_none, errW_some] <;> rfl) | (simp [*, errW_none, errW_some] <;> rfl), by repeat (first | (with_reducible first | exact HB.out | apply below_alloc | apply pw_below_drewN | apply below_drew1 | refine below_set ?_ GE235.out | refine below_set ?_ GE237.out) | exact HB.out)⟩
       ·
        rw [if_neg c13] at H
        exact absurd H (by simp)
      ·
       rw [if_neg c12] at H
       have c12b0 : decide (x3_2 < (l0_1.length : Int)) = false := decide_eq_false c12
       clear c12
       have H' := Aside0.mk H
       clear H
       have hcz54_0 := blkc BK235.out 0 (.int .i64 a0_0) rfl
       have hcz54_1 := blkc BK235.out 1 (.slice A0_1 l0_1.length c0_1) rfl
       have hcz54_2 := blkc BK235.out 2 (.slice A0_2 l0_2.length c0_2) rfl
       have hfz54_0 := blk_frozen BK235.out 0
       have hfz54_1 := blk_frozen BK235.out 1
       have hfz54_2 := blk_frozen BK235.out 2
       go_wp2
       go_loopg [5] k2 (fun kq v5 w' => ∃ (x5_3 : Int), v5 = .int .i64 x5_3 ∧ Aside0 (dropperref05_Valid.l1 kq x5_3 a0_0 l0_1 l0_2 = some r) ∧ Aside0 (kq ≤ k2) ∧ Aside0 (w'.heap[gb235]? = some (.cells #[.int .i64 a0_0, (.slice A0_1 l0_1.length c0_1), (.slice A0_2 l0_2.length c0_2)] 25 (0, 0))) ∧ Aside0 (Below w.heap.size w w'))
       case atStart => exact ⟨(0), rsz, H', ⟨Nat.le_refl _⟩, ⟨by (with_reducible repeat (first | refine blk_drewN ?_ _ | refine blk_drew ?_ | refine blk_alloc ?_ _)); exact BK235.out⟩, ⟨by repeat (first | (with_reducible first | exact HB.out | apply below_alloc | apply pw_below_drewN | apply below_drew1 | refine below_set ?_ GE235.out) | exact HB.out)⟩⟩
       case round =>
        clear H'
        try clear c1
        try clear c2
        try clear p2
        try clear q2
        try clear hx2
        try clear c3
        try clear c4
        try clear c4b0
        try clear c5
        try clear c6
        try clear c6b0
        try clear p6
        try clear c8
        try clear c8b0
        try clear c8b1
        try clear c11
        try clear c12
        try clear c12b0
        try clear c13
        try clear c13b0
        try clear c15
        try clear c17
        try clear c18
        try clear c18b0
        try clear c18b1
        try clear c20
        try clear c21
        try clear p23
        try clear q23
        try clear hx23
        try clear c31
        try clear c41
        try clear c50
        try clear hcz10_0
        try clear hcz10_1
        try clear hcz10_2
        try clear hcz19_0
        try clear hcz19_1
        try clear hcz19_2
        try clear hcz22_0
        try clear hcz22_1
        try clear hcz23_0
        try clear hcz23_1
        try clear hcz23_2
        try clear hcz25_0
        try clear hcz25_1
        try clear hcz25_2
        try clear hcz26_0
        try clear hcz26_1
        try clear hcz28_0
        try clear hcz28_1
        try clear hcz29_0
        try clear hcz29_1
        try clear hcz29_2
        try clear hcz32_0
        try clear hcz32_1
        try clear hcz33_0
        try clear hcz33_1
        try clear hcz33_2
        try clear hcz35_0
        try clear hcz35_1
        try clear hcz35_2
        try clear hcz36_0
        try clear hcz36_1
        try clear hcz38_0
        try clear hcz38_1
        try clear hcz39_0
        try clear hcz39_1
        try clear hcz39_2
        try clear hcz42_0
        try clear hcz42_1
        try clear hcz43_0
        try clear hcz43_1
        try clear hcz43_2
        try clear hcz45_0
        try clear hcz45_1
        try clear hcz45_2
        try clear hcz46_0
        try clear hcz46_1
        try clear hcz48_0
        try clear hcz48_1
        try clear hcz48_2
        try clear hcz51_0
        try clear hcz51_1
        try clear hcz52_0
        try clear hcz52_1
        try clear hcz52_2
        try clear hcz54_0
        try clear hcz54_1
        try clear hcz54_2
        try clear hcz5_0
        try clear hcz5_1
        try clear hcz5_2
        try clear hcz7_0
        try clear hcz7_1
        try clear hcz7_2
        try clear hcz9_0
        try clear hcz9_1
        try clear hcz9_2
        try clear hfz10_0
        try clear hfz10_1
        try clear hfz10_2
        try clear hfz19_0
        try clear hfz19_1
        try clear hfz19_2
        try clear hfz22_0
        try clear hfz22_1
        try clear hfz23_0
        try clear hfz23_1
        try clear hfz23_2
        try clear hfz25_0
        try clear hfz25_1
        try clear hfz25_2
        try clear hfz26_0
        try clear hfz26_1
        try clear hfz28_0
        try clear hfz28_1
        try clear hfz29_0
        try clear hfz29_1
        try clear hfz29_2
        try clear hfz32_0
        try clear hfz32_1
        try clear hfz33_0
        try clear hfz33_1
        try clear hfz33_2
        try clear hfz35_0
        try clear hfz35_1
        try clear hfz35_2
        try clear hfz36_0
        try clear hfz36_1
        try clear hfz38_0
        try clear hfz38_1
        try clear hfz39_0
        try clear hfz39_1
        try clear hfz39_2
        try clear hfz42_0
        try clear hfz42_1
        try clear hfz43_0
        try clear hfz43_1
        try clear hfz43_2
        try clear hfz45_0
        try clear hfz45_1
        try clear hfz45_2
        try clear hfz46_0
        try clear hfz46_1
        try clear hfz48_0
        try clear hfz48_1
        try clear hfz48_2
        try clear hfz51_0
        try clear hfz51_1
        try clear hfz52_0
        try clear hfz52_1
        try clear hfz52_2
        try clear hfz54_0
        try clear hfz54_1
        try clear hfz54_2
        try clear hfz5_0
        try clear hfz5_1
        try clear hfz5_2
        try clear hfz7_0
        try clear hfz7_1
        try clear hfz7_2
        try clear hfz9_0
        try clear hfz9_1
        try clear hfz9_2
        try clear hx236_0
        try clear hx236_1
        try clear p2
        try clear p236
        try clear q236
        obtain ⟨x5_3, rfl, HA, HK3, BK235, HB⟩ := hrel
        cases gk with
        | zero => exact absurd HA.out (by simp [dropperref05_Valid.l1])
        | succ k3 =>
         have H := HA.out
         clear HA
         simp only [dropperref05_Valid.l1] at H
         by_cases c55 : x5_3 < (l0_2.length : Int)
         ·
          rw [if_pos c55] at H
          have c55b0 : decide (x5_3 < (l0_2.length : Int)) = true := decide_eq_true c55
          clear c55
          by_cases c56 : 0 ≤ x5_3
          ·
           rw [if_pos c56] at H
           have c56b0 : decide (0 ≤ x5_3) = true := decide_eq_true c56
           clear c56
           replace H := Option.bind_eq_some_iff.mp H
           obtain ⟨t242, A570, H⟩ := H
           replace H : (if t242 = true then (if ((rd_T71 l0_2 x5_3).f1) < 1 then (some false) else (if ((rd_T71 l0_2 x5_3).f1) > 3 then (some false) else (dropperref05_Valid.l1 k3 (wrap64 (x5_3 + 1)) a0_0 l0_1 l0_2))) else (some false)) = some r := H
           have A57 := Aside0.mk A570
           clear A570
           by_cases c58 : t242 = true
           ·
            subst c58
            have H1 : (if ((rd_T71 l0_2 x5_3).f1) < 1 then (some false) else (if ((rd_T71 l0_2 x5_3).f1) > 3 then (some false) else (dropperref05_Valid.l1 k3 (wrap64 (x5_3 + 1)) a0_0 l0_1 l0_2))) = some r := by rw [if_pos rfl] at H; exact H
            clear H
            have H := H1
            clear H1
            by_cases c59 : ((rd_T71 l0_2 x5_3).f1) < 1
            ·
             rw [if_pos c59] at H
             have c59b0 : decide (((rd_T71 l0_2 x5_3).f1) < 1) = true := decide_eq_true c59
             clear c59
             obtain rfl := Option.some.inj H
             have hcz60_0 := blkc BK235.out 0 (.int .i64 a0_0) rfl
             have hcz60_1 := blkc BK235.out 1 (.slice A0_1 l0_1.length c0_1) rfl
             have hcz60_2 := blkc BK235.out 2 (.slice A0_2 l0_2.length c0_2) rfl
             have hfz60_0 := blk_frozen BK235.out 0
             have hfz60_1 := blk_frozen BK235.out 1
             have hfz60_2 := blk_frozen BK235.out 2
             have p240 : 0 ≤ (x5_3 : Int) := of_decide_eq_true asz
             have q240 : x5_3 < (l0_2.length : Int) := of_decide_eq_true asz
             obtain ⟨ad240, e240, hx240_0, hx240_1⟩ := at_T71 HR0_2.out x5_3 p240 q240
             cases e240
             replace hx240_0 := (HB.out.cell (World.block_lt_of_cell? w _ hx240_0)).trans hx240_0
             replace hx240_1 := (HB.out.cell (World.block_lt_of_cell? w _ hx240_1)).trans hx240_1
             replace p240 := eq_true p240
             replace q240 := eq_true q240
             go_wp2_with (first | ((with_reducible refine gate_dst (N := 6) rfl ?_); (try (refine gate_guard (by rfl) ?_; dsimp only)); refine box_event ?hg (N := 6) ?hd (cs := #[.int .i64 0, .int .i64 0]) (t := 71) ?hr ?_; (case hd => rfl); (case hg => rfl); (case hr => first | (go_simp; done) | (go_simp; rfl)); intro gb241 hg w61 hbox hb; have n0_ := Aside0.mk (blk_below (g := gb235) blkz hb); have n1_ := Aside0.mk (below_step bel hb); have n2_ := Aside0.mk (hbox); have n3_ := Aside0.mk ((by rw [hg]; exact (below_size bel) : w.heap.size ≤ gb241)); have n4_ := n3_; have n5_ := Aside0.mk ((by rw [hg]; exact Nat.ne_of_lt (blk_lt (g := gb235) (o := .cells #[.int .i64 a0_0, .slice A0_1 l0_1.length c0_1, .slice (some ad240) l0_2.length c0_2] 25 (0, 0)) blkz) : gb235 ≠ gb241)); have n6_ := Aside0.mk ((by rw [hg]; exact Nat.ne_of_gt (blk_lt (g := gb235) (o := .cells #[.int .i64 a0_0, .slice A0_1 l0_1.length c0_1, .slice (some ad240) l0_2.length c0_2] 25 (0, 0)) blkz) : gb241 ≠ gb235)); clear BK235; clear HB; have BK235 := n0_; have HB := n1_; have BK241 := n2_; have GW241 := n3_; have GE241 := n4_; have NB235_241 := n5_; have NB241_235 := n6_; clear n0_ n1_ n2_ n3_ n4_ n5_ n6_; clear hb hbox hg; have hnb62 := NB241_235.out; have hnc62 := NB235_241.out; have hcz63_0 := blkc BK241.out 0 (.int .i64 0) rfl; have hcz63_1 := blkc BK241.out 1 (.int .i64 0) rfl; have hfz63_0 := blk_frozen BK241.out 0; have hfz63_1 := blk_frozen BK241.out 1; have hcz64_0 := blkc BK235.out 0 (.int .i64 a0_0) rfl; have hcz64_1 := blkc BK235.out 1 (.slice A0_1 l0_1.length c0_1) rfl; have hcz64_2 := blkc BK235.out 2 (.slice (some ad240) l0_2.length c0_2) rfl; have hfz64_0 := blk_frozen BK235.out 0; have hfz64_1 := blk_frozen BK235.out 1; have hfz64_2 := blk_frozen BK235.out 2) | ((with_reducible refine gate_callee (f := 58) rfl ?_); refine goesL_ (some 73) rfl rfl Tryd.func58 (by kernel_rfl) rfl #[.agg #[.int .i64 a0_0, .slice A0_1 l0_1.length c0_1, .slice (some ad240) l0_2.length c0_2], .int .i64 ((rd_T71 l0_2 x5_3).f0)] rfl mapz ?_; (with_reducible refine (dropperref05_section.calls a0_0 _ _ l0_1 _ _ l0_2 ((rd_T71 l0_2 x5_3).f0) true _ ?side1 ?side2 ?side3 ?side4 A57.out).mono ?_); (case side1 => exact cbz HR0_1); (case side2 => exact HC0_1.out); (case side3 => exact cbz HR0_2); (case side4 => exact HC0_2.out); rintro e w65 ⟨rfl, hb⟩; refine ⟨_, rfl, ?_⟩; have n0_ := Aside0.mk (blk_below (g := gb235) (o := .cells #[.int .i64 a0_0, .slice A0_1 l0_1.length c0_1, .slice (some ad240) l0_2.length c0_2] 25 (0, 0)) (by (with_reducible repeat (first | refine blk_drewN ?_ _ | refine blk_drew ?_ | refine blk_alloc ?_ _)); refine blk_far ?_ NB235_241.out _; (with_reducible repeat (first | refine blk_drewN ?_ _ | refine blk_drew ?_ | refine blk_alloc ?_ _)); refine blk_far ?_ NB235_241.out _; (with_reducible repeat (first | refine blk_drewN ?_ _ | refine blk_drew ?_ | refine blk_alloc ?_ _)); exact BK235.out) hb); have n1_ := Aside0.mk (blk_below (g := gb241) (o := .cells #[.int .i64 ((rd_T71 l0_2 x5_3).f0), .int .i64 ((rd_T71 l0_2 x5_3).f1)] 71 (0, 0)) (by (with_reducible repeat (first | refine blk_drewN ?_ _ | refine blk_drew ?_ | refine blk_alloc ?_ _)); refine blk_put (cs := #[.int .i64 ((rd_T71 l0_2 x5_3).f0), .int .i64 0]) ?_ 1 _ rfl; (with_reducible repeat (first | refine blk_drewN ?_ _ | refine blk_drew ?_ | refine blk_alloc ?_ _)); refine blk_put (cs := #[.int .i64 0, .int .i64 0]) ?_ 0 _ rfl; (with_reducible repeat (first | refine blk_drewN ?_ _ | refine blk_drew ?_ | refine blk_alloc ?_ _)); exact BK241.out) hb); have n2_ := Aside0.mk (below_step bel hb); clear BK235; clear BK241; clear HB; have BK235 := n0_; have BK241 := n1_; have HB := n2_; clear n0_ n1_ n2_; (try clear hb); (try clear hb2); (try clear hk); (try clear hi); have hcz66_0 := blkc BK241.out 0 (.int .i64 ((rd_T71 l0_2 x5_3).f0)) rfl; have hcz66_1 := blkc BK241.out 1 (.int .i64 ((rd_T71 l0_2 x5_3).f1)) rfl; have hfz66_0 := blk_frozen BK241.out 0; have hfz66_1 := blk_frozen BK241.out 1))
             go_ret
             exact ⟨by first | rfl | (simp [errW_none, errW_some] <;> rfl) | (simp [*, errW_none, errW_some] <;> rfl), by repeat (first | (with_reducible first | exact HB.out | apply below_alloc | apply pw_below_drewN | apply below_drew1 | refine below_set ?_ GE235.out | refine below_set ?_ GE241.out) | exact HB.out)⟩
            ·
             rw [if_neg c59] at H
             have c59b0 : decide (((rd_T71 l0_2 x5_3).f1) < 1) = false := decide_eq_false c59
             clear c59
             by_cases c67 : ((rd_T71 l0_2 x5_3).f1) > 3
             ·
              rw [if_pos c67] at H
              have c67b0 : decide (3 < ((rd_T71 l0_2 x5_3).f1)) = true := decide_eq_true c67
              clear c67
              obtain rfl := Option.some.inj H
              have hcz68_0 := blkc BK235.out 0 (.int .i64 a0_0) rfl
              have hcz68_1 := blkc BK235.out 1 (.slice A0_1 l0_1.length c0_1) rfl
              have hcz68_2 := blkc BK235.out 2 (.slice A0_2 l0_2.length c0_2) rfl
              have hfz68_0 := blk_frozen BK235.out 0
              have hfz68_1 := blk_frozen BK235.out 1
              have hfz68_2 := blk_frozen BK235.out 2
              have p240 : 0 ≤ (x5_3 : Int) := of_decide_eq_true asz
              have q240 : x5_3 < (l0_2.length : Int) := of_decide_eq_true asz
              obtain ⟨ad240, e240, hx240_0, hx240_1⟩ := at_T71 HR0_2.out x5_3 p240 q240
              cases e240
              replace hx240_0 := (HB.out.cell (World.block_lt_of_cell? w _ hx240_0)).trans hx240_0
              replace hx240_1 := (HB.out.cell (World.block_lt_of_cell? w _ hx240_1)).trans hx240_1
              replace p240 := eq_true p240
              replace q240 := eq_true q240
              go_wp2_with (first | ((with_reducible refine gate_dst (N := 6) rfl ?_); (try (refine gate_guard (by rfl) ?_; dsimp only)); refine box_event ?hg (N := 6) ?hd (cs := #[.int .i64 0, .int .i64 0]) (t := 71) ?hr ?_; (case hd => rfl); (case hg => rfl); (case hr => first | (go_simp; done) | (go_simp; rfl)); intro gb241 hg w69 hbox hb; have n0_ := Aside0.mk (blk_below (g := gb235) blkz hb); have n1_ := Aside0.mk (below_step bel hb); have n2_ := Aside0.mk (hbox); have n3_ := Aside0.mk ((by rw [hg]; exact (below_size bel) : w.heap.size ≤ gb241)); have n4_ := n3_; have n5_ := Aside0.mk ((by rw [hg]; exact Nat.ne_of_lt (blk_lt (g := gb235) (o := .cells #[.int .i64 a0_0, .slice A0_1 l0_1.length c0_1, .slice (some ad240) l0_2.length c0_2] 25 (0, 0)) blkz) : gb235 ≠ gb241)); have n6_ := Aside0.mk ((by rw [hg]; exact Nat.ne_of_gt (blk_lt (g := gb235) (o := .cells #[.int .i64 a0_0, .slice A0_1 l0_1.length c0_1, .slice (some ad240) l0_2.length c0_2] 25 (0, 0)) blkz) : gb241 ≠ gb235)); clear BK235; clear HB; have BK235 := n0_; have HB := n1_; have BK241 := n2_; have GW241 := n3_; have GE241 := n4_; have NB235_241 := n5_; have NB241_235 := n6_; clear n0_ n1_ n2_ n3_ n4_ n5_ n6_; clear hb hbox hg; have hnb70 := NB241_235.out; have hnc70 := NB235_241.out; have hcz71_0 := blkc BK241.out 0 (.int .i64 0) rfl; have hcz71_1 := blkc BK241.out 1 (.int .i64 0) rfl; have hfz71_0 := blk_frozen BK241.out 0; have hfz71_1 := blk_frozen BK241.out 1; have hcz72_0 := blkc BK235.out 0 (.int .i64 a0_0) rfl; have hcz72_1 := blkc BK235.out 1 (.slice A0_1 l0_1.length c0_1) rfl; have hcz72_2 := blkc BK235.out 2 (.slice (some ad240) l0_2.length c0_2) rfl; have hfz72_0 := blk_frozen BK235.out 0; have hfz72_1 := blk_frozen BK235.out 1; have hfz72_2 := blk_frozen BK235.out 2) | ((with_reducible refine gate_callee (f := 58) rfl ?_); refine goesL_ (some 73) rfl rfl Tryd.func58 (by kernel_rfl) rfl #[.agg #[.int .i64 a0_0, .slice A0_1 l0_1.length c0_1, .slice (some ad240) l0_2.length c0_2], .int .i64 ((rd_T71 l0_2 x5_3).f0)] rfl mapz ?_; (with_reducible refine (dropperref05_section.calls a0_0 _ _ l0_1 _ _ l0_2 ((rd_T71 l0_2 x5_3).f0) true _ ?side1 ?side2 ?side3 ?side4 A57.out).mono ?_); (case side1 => exact cbz HR0_1); (case side2 => exact HC0_1.out); (case side3 => exact cbz HR0_2); (case side4 => exact HC0_2.out); rintro e w73 ⟨rfl, hb⟩; refine ⟨_, rfl, ?_⟩; have n0_ := Aside0.mk (blk_below (g := gb235) (o := .cells #[.int .i64 a0_0, .slice A0_1 l0_1.length c0_1, .slice (some ad240) l0_2.length c0_2] 25 (0, 0)) (by (with_reducible repeat (first | refine blk_drewN ?_ _ | refine blk_drew ?_ | refine blk_alloc ?_ _)); refine blk_far ?_ NB235_241.out _; (with_reducible repeat (first | refine blk_drewN ?_ _ | refine blk_drew ?_ | refine blk_alloc ?_ _)); refine blk_far ?_ NB235_241.out _; (with_reducible repeat (first | refine blk_drewN ?_ _ | refine blk_drew ?_ | refine blk_alloc ?_ _)); exact BK235.out) hb); have n1_ := Aside0.mk (blk_below (g := gb241) (o := .cells #[.int .i64 ((rd_T71 l0_2 x5_3).f0), .int .i64 ((rd_T71 l0_2 x5_3).f1)] 71 (0, 0)) (by (with_reducible repeat (first | refine blk_drewN ?_ _ | refine blk_drew ?_ | refine blk_alloc ?_ _)); refine blk_put (cs := #[.int .i64 ((rd_T71 l0_2 x5_3).f0), .int .i64 0]) ?_ 1 _ rfl; (with_reducible repeat (first | refine blk_drewN ?_ _ | refine blk_drew ?_ | refine blk_alloc ?_ _)); refine blk_put (cs := #[.int .i64 0, .int .i64 0]) ?_ 0 _ rfl; (with_reducible repeat (first | refine blk_drewN ?_ _ | refine blk_drew ?_ | refine blk_alloc ?_ _)); exact BK241.out) hb); have n2_ := Aside0.mk (below_step bel hb); clear BK235; clear BK241; clear HB; have BK235 := n0_; have BK241 := n1_; have HB := n2_; clear n0_ n1_ n2_; (try clear hb); (try clear hb2); (try clear hk); (try clear hi); have hcz74_0 := blkc BK241.out 0 (.int .i64 ((rd_T71 l0_2 x5_3).f0)) rfl; have hcz74_1 := blkc BK241.out 1 (.int .i64 ((rd_T71 l0_2 x5_3).f1)) rfl; have hfz74_0 := blk_frozen BK241.out 0; have hfz74_1 := blk_frozen BK241.out 1))
              go_ret
              exact ⟨by first | rfl | (simp [errW_none, errW_some] <;> rfl) | (simp [*, errW_none, errW_some] <;> rfl), by repeat (first | (with_reducible first | exact HB.out | apply below_alloc | apply pw_below_drewN | apply below_drew1 | refine below_set ?_ GE235.out | refine below_set ?_ GE241.out) | exact HB.out)⟩
             ·
              rw [if_neg c67] at H
              have c67b0 : decide (3 < ((rd_T71 l0_2 x5_3).f1)) = false := decide_eq_false c67
              clear c67
              have H' := Aside0.mk H
              clear H
              have hcz75_0 := blkc BK235.out 0 (.int .i64 a0_0) rfl
              have hcz75_1 := blkc BK235.out 1 (.slice A0_1 l0_1.length c0_1) rfl
              have hcz75_2 := blkc BK235.out 2 (.slice A0_2 l0_2.length c0_2) rfl
              have hfz75_0 := blk_frozen BK235.out 0
              have hfz75_1 := blk_frozen BK235.out 1
              have hfz75_2 := blk_frozen BK235.out 2
              have p240 : 0 ≤ (x5_3 : Int) := of_decide_eq_true asz
              have q240 : x5_3 < (l0_2.length : Int) := of_decide_eq_true asz
              obtain ⟨ad240, e240, hx240_0, hx240_1⟩ := at_T71 HR0_2.out x5_3 p240 q240
              cases e240
              replace hx240_0 := (HB.out.cell (World.block_lt_of_cell? w _ hx240_0)).trans hx240_0
              replace hx240_1 := (HB.out.cell (World.block_lt_of_cell? w _ hx240_1)).trans hx240_1
              replace p240 := eq_true p240
              replace q240 := eq_true q240
              go_wp2_with (first | ((with_reducible refine gate_dst (N := 6) rfl ?_); (try (refine gate_guard (by rfl) ?_; dsimp only)); refine box_event ?hg (N := 6) ?hd (cs := #[.int .i64 0, .int .i64 0]) (t := 71) ?hr ?_; (case hd => rfl); (case hg => rfl); (case hr => first | (go_simp; done) | (go_simp; rfl)); intro gb241 hg w76 hbox hb; have n0_ := Aside0.mk (blk_below (g := gb235) blkz hb); have n1_ := Aside0.mk (below_step bel hb); have n2_ := Aside0.mk (hbox); have n3_ := Aside0.mk ((by rw [hg]; exact (below_size bel) : w.heap.size ≤ gb241)); have n4_ := n3_; have n5_ := Aside0.mk ((by rw [hg]; exact Nat.ne_of_lt (blk_lt (g := gb235) (o := .cells #[.int .i64 a0_0, .slice A0_1 l0_1.length c0_1, .slice (some ad240) l0_2.length c0_2] 25 (0, 0)) blkz) : gb235 ≠ gb241)); have n6_ := Aside0.mk ((by rw [hg]; exact Nat.ne_of_gt (blk_lt (g := gb235) (o := .cells #[.int .i64 a0_0, .slice A0_1 l0_1.length c0_1, .slice (some ad240) l0_2.length c0_2] 25 (0, 0)) blkz) : gb241 ≠ gb235)); clear BK235; clear HB; have BK235 := n0_; have HB := n1_; have BK241 := n2_; have GW241 := n3_; have GE241 := n4_; have NB235_241 := n5_; have NB241_235 := n6_; clear n0_ n1_ n2_ n3_ n4_ n5_ n6_; clear hb hbox hg; have hnb77 := NB241_235.out; have hnc77 := NB235_241.out; have hcz78_0 := blkc BK241.out 0 (.int .i64 0) rfl; have hcz78_1 := blkc BK241.out 1 (.int .i64 0) rfl; have hfz78_0 := blk_frozen BK241.out 0; have hfz78_1 := blk_frozen BK241.out 1; have hcz79_0 := blkc BK235.out 0 (.int .i64 a0_0) rfl; have hcz79_1 := blkc BK235.out 1 (.slice A0_1 l0_1.length c0_1) rfl; have hcz79_2 := blkc BK235.out 2 (.slice (some ad240) l0_2.length c0_2) rfl; have hfz79_0 := blk_frozen BK235.out 0; have hfz79_1 := blk_frozen BK235.out 1; have hfz79_2 := blk_frozen BK235.out 2) | ((with_reducible refine gate_callee (f := 58) rfl ?_); refine goesL_ (some 73) rfl rfl Tryd.func58 (by kernel_rfl) rfl #[.agg #[.int .i64 a0_0, .slice A0_1 l0_1.length c0_1, .slice (some ad240) l0_2.length c0_2], .int .i64 ((rd_T71 l0_2 x5_3).f0)] rfl mapz ?_; (with_reducible refine (dropperref05_section.calls a0_0 _ _ l0_1 _ _ l0_2 ((rd_T71 l0_2 x5_3).f0) true _ ?side1 ?side2 ?side3 ?side4 A57.out).mono ?_); (case side1 => exact cbz HR0_1); (case side2 => exact HC0_1.out); (case side3 => exact cbz HR0_2); (case side4 => exact HC0_2.out); rintro e w80 ⟨rfl, hb⟩; refine ⟨_, rfl, ?_⟩; have n0_ := Aside0.mk (blk_below (g := gb235) (o := .cells #[.int .i64 a0_0, .slice A0_1 l0_1.length c0_1, .slice (some ad240) l0_2.length c0_2] 25 (0, 0)) (by (with_reducible repeat (first | refine blk_drewN ?_ _ | refine blk_drew ?_ | refine blk_alloc ?_ _)); refine blk_far ?_ NB235_241.out _; (with_reducible repeat (first | refine blk_drewN ?_ _ | refine blk_drew ?_ | refine blk_alloc ?_ _)); refine blk_far ?_ NB235_241.out _; (with_reducible repeat (first | refine blk_drewN ?_ _ | refine blk_drew ?_ | refine blk_alloc ?_ _)); exact BK235.out) hb); have n1_ := Aside0.mk (blk_below (g := gb241) (o := .cells #[.int .i64 ((rd_T71 l0_2 x5_3).f0), .int .i64 ((rd_T71 l0_2 x5_3).f1)] 71 (0, 0)) (by (with_reducible repeat (first | refine blk_drewN ?_ _ | refine blk_drew ?_ | refine blk_alloc ?_ _)); refine blk_put (cs := #[.int .i64 ((rd_T71 l0_2 x5_3).f0), .int .i64 0]) ?_ 1 _ rfl; (with_reducible repeat (first | refine blk_drewN ?_ _ | refine blk_drew ?_ | refine blk_alloc ?_ _)); refine blk_put (cs := #[.int .i64 0, .int .i64 0]) ?_ 0 _ rfl; (with_reducible repeat (first | refine blk_drewN ?_ _ | refine blk_drew ?_ | refine blk_alloc ?_ _)); exact BK241.out) hb); have n2_ := Aside0.mk (below_step bel hb); clear BK235; clear BK241; clear HB; have BK235 := n0_; have BK241 := n1_; have HB := n2_; clear n0_ n1_ n2_; (try clear hb); (try clear hb2); (try clear hk); (try clear hi); have hcz81_0 := blkc BK241.out 0 (.int .i64 ((rd_T71 l0_2 x5_3).f0)) rfl; have hcz81_1 := blkc BK241.out 1 (.int .i64 ((rd_T71 l0_2 x5_3).f1)) rfl; have hfz81_0 := blk_frozen BK241.out 0; have hfz81_1 := blk_frozen BK241.out 1))
              go_roundg k3
              case measure => have := HJ1.out; have := HK2.out; have := HK3.out; omega
              case rel => exact ⟨(wrap64 (x5_3 + 1)), rsz, H', ⟨by have := HJ1.out; have := HK2.out; have := HK3.out; omega⟩, ⟨by (with_reducible repeat (first | refine blk_drewN ?_ _ | refine blk_drew ?_ | refine blk_alloc ?_ _)); exact BK235.out⟩, ⟨by repeat (first | (with_reducible first | exact HB.out | apply below_alloc | apply pw_below_drewN | apply below_drew1 | refine below_set ?_ GE235.out | refine below_set ?_ GE241.out) | exact HB.out)⟩⟩
           ·
            replace c58 := Bool.eq_false_iff.mpr c58
            subst c58
            have H1 : (some false) = some r := by rw [if_neg (show ¬ (false = true) by decide)] at H; exact H
            clear H
            have H := H1
            clear H1
            obtain rfl := Option.some.inj H
            have hcz82_0 := blkc BK235.out 0 (.int .i64 a0_0) rfl
            have hcz82_1 := blkc BK235.out 1 (.slice A0_1 l0_1.length c0_1) rfl
            have hcz82_2 := blkc BK235.out 2 (.slice A0_2 l0_2.length c0_2) rfl
            have hfz82_0 := blk_frozen BK235.out 0
            have hfz82_1 := blk_frozen BK235.out 1
            have hfz82_2 := blk_frozen BK235.out 2
            have p240 : 0 ≤ (x5_3 : Int) := of_decide_eq_true asz
            have q240 : x5_3 < (l0_2.length : Int) := of_decide_eq_true asz
            obtain ⟨ad240, e240, hx240_0, hx240_1⟩ := at_T71 HR0_2.out x5_3 p240 q240
            cases e240
            replace hx240_0 := (HB.out.cell (World.block_lt_of_cell? w _ hx240_0)).trans hx240_0
            replace hx240_1 := (HB.out.cell (World.block_lt_of_cell? w _ hx240_1)).trans hx240_1
            replace p240 := eq_true p240
            replace q240 := eq_true q240
            go_wp2_with (first | ((with_reducible refine gate_dst (N := 6) rfl ?_); (try (refine gate_guard (by rfl) ?_; dsimp only)); refine box_event ?hg (N := 6) ?hd (cs := #[.int .i64 0, .int .i64 0]) (t := 71) ?hr ?_; (case hd => rfl); (case hg => rfl); (case hr => first | (go_simp; done) | (go_simp; rfl)); intro gb241 hg w83 hbox hb; have n0_ := Aside0.mk (blk_below (g := gb235) blkz hb); have n1_ := Aside0.mk (below_step bel hb); have n2_ := Aside0.mk (hbox); have n3_ := Aside0.mk ((by rw [hg]; exact (below_size bel) : w.heap.size ≤ gb241)); have n4_ := n3_; have n5_ := Aside0.mk ((by rw [hg]; exact Nat.ne_of_lt (blk_lt (g := gb235) (o := .cells #[.int .i64 a0_0, .slice A0_1 l0_1.length c0_1, .slice (some ad240) l0_2.length c0_2] 25 (0, 0)) blkz) : gb235 ≠ gb241)); have n6_ := Aside0.mk ((by rw [hg]; exact Nat.ne_of_gt (blk_lt (g := gb235) (o := .cells #[.int .i64 a0_0, .slice A0_1 l0_1.length c0_1, .slice (some ad240) l0_2.length c0_2] 25 (0, 0)) blkz) : gb241 ≠ gb235)); clear BK235; clear HB; have BK235 := n0_; have HB := n1_; have BK241 := n2_; have GW241 := n3_; have GE241 := n4_; have NB235_241 := n5_; have NB241_235 := n6_; clear n0_ n1_ n2_ n3_ n4_ n5_ n6_; clear hb hbox hg; have hnb84 := NB241_235.out; have hnc84 := NB235_241.out; have hcz85_0 := blkc BK241.out 0 (.int .i64 0) rfl; have hcz85_1 := blkc BK241.out 1 (.int .i64 0) rfl; have hfz85_0 := blk_frozen BK241.out 0; have hfz85_1 := blk_frozen BK241.out 1; have hcz86_0 := blkc BK235.out 0 (.int .i64 a0_0) rfl; have hcz86_1 := blkc BK235.out 1 (.slice A0_1 l0_1.length c0_1) rfl; have hcz86_2 := blkc BK235.out 2 (.slice (some ad240) l0_2.length c0_2) rfl; have hfz86_0 := blk_frozen BK235.out 0; have hfz86_1 := blk_frozen BK235.out 1; have hfz86_2 := blk_frozen BK235.out 2) | ((with_reducible refine gate_callee (f := 58) rfl ?_); refine goesL_ (some 73) rfl rfl Tryd.func58 (by kernel_rfl) rfl #[.agg #[.int .i64 a0_0, .slice A0_1 l0_1.length c0_1, .slice (some ad240) l0_2.length c0_2], .int .i64 ((rd_T71 l0_2 x5_3).f0)] rfl mapz ?_; (with_reducible refine (dropperref05_section.calls a0_0 _ _ l0_1 _ _ l0_2 ((rd_T71 l0_2 x5_3).f0) false _ ?side1 ?side2 ?side3 ?side4 A57.out).mono ?_); (case side1 => exact cbz HR0_1); (case side2 => exact HC0_1.out); (case side3 => exact cbz HR0_2); (case side4 => exact HC0_2.out); rintro e w87 ⟨rfl, hb⟩; refine ⟨_, rfl, ?_⟩; have n0_ := Aside0.mk (blk_below (g := gb235) (o := .cells #[.int .i64 a0_0, .slice A0_1 l0_1.length c0_1, .slice (some ad240) l0_2.length c0_2] 25 (0, 0)) (by (with_reducible repeat (first | refine blk_drewN ?_ _ | refine blk_drew ?_ | refine blk_alloc ?_ _)); refine blk_far ?_ NB235_241.out _; (with_reducible repeat (first | refine blk_drewN ?_ _ | refine blk_drew ?_ | refine blk_alloc ?_ _)); refine blk_far ?_ NB235_241.out _; (with_reducible repeat (first | refine blk_drewN ?_ _ | refine blk_drew ?_ | refine blk_alloc ?_ _)); exact BK235.out) hb); have n1_ := Aside0.mk (blk_below (g := gb241) (o := .cells #[.int .i64 ((rd_T71 l0_2 x5_3).f0), .int .i64 ((rd_T71 l0_2 x5_3).f1)] 71 (0, 0)) (by (with_reducible repeat (first | refine blk_drewN ?_ _ | refine blk_drew ?_ | refine blk_alloc ?_ _)); refine blk_put (cs := #[.int .i64 ((rd_T71 l0_2 x5_3).f0), .int .i64 0]) ?_ 1 _ rfl; (with_reducible repeat (first | refine blk_drewN ?_ _ | refine blk_drew ?_ | refine blk_alloc ?_ _)); refine blk_put (cs := #[.int .i64 0, .int .i64 0]) ?_ 0 _ rfl; (with_reducible repeat (first | refine blk_drewN ?_ _ | refine blk_drew ?_ | refine blk_alloc ?_ _)); exact BK241.out) hb); have n2_ := Aside0.mk (below_step bel hb); clear BK235; clear BK241; clear HB; have BK235 := n0_; have BK241 := n1_; have HB := n2_; clear n0_ n1_ n2_; (try clear hb); (try clear hb2); (try clear hk); (try clear hi)))
            go_ret
            exact ⟨by first | rfl | (simp [errW_none, errW_some] <;> rfl) | (simp [*, errW_none, errW_some] <;> rfl), by repeat (first | (with_reducible first | exact HB.out | apply below_alloc | apply pw_below_drewN | apply below_drew1 | refine below_set ?_ GE235.out | refine below_set ?_ GE241.out) | exact HB.out)⟩
          ·
           rw [if_neg c56] at H
           exact absurd H (by simp)
         ·
          rw [if_neg c55] at H
          have c55b0 : decide (x5_3 < (l0_2.length : Int)) = false := decide_eq_false c55
          clear c55
          obtain rfl := Option.some.inj H
          have hcz88_0 := blkc BK235.out 0 (.int .i64 a0_0) rfl
          have hcz88_1 := blkc BK235.out 1 (.slice A0_1 l0_1.length c0_1) rfl
          have hcz88_2 := blkc BK235.out 2 (.slice A0_2 l0_2.length c0_2) rfl
          have hfz88_0 := blk_frozen BK235.out 0
          have hfz88_1 := blk_frozen BK235.out 1
          have hfz88_2 := blk_frozen BK235.out 2
          go_wp2
          go_ret
          exact ⟨by first | rfl | (simp [errW_none, errW_some] <;> rfl) | (simp [*, errW_none, errW_some] <;> rfl), by repeat (first | (with_reducible first | exact HB.out | apply below_alloc | apply pw_below_drewN | apply below_drew1 | refine below_set ?_ GE235.out) | exact HB.out)⟩

end Go.Proofs.YtoilhnmdemnknaaDoor.XFeed

-- Written by wip/xprint.py of this repo, over the kit's print.py: out of the translation; the oracles in it are by hand. Not trusted: Lean checks it.
namespace Go.Proofs.YtoilhnmdemnknaaDoor.XFeed
open Go.RowKit Go.Proofs.YtoilhnmdemnknaaDoorW.PrintWords Go.Proofs.YtoilhnmdemnknaaDoorW.PrintLast Go.Proofs.YtoilhnmdemnknaaDoorW.PrintMore
attribute [local go_sem] max2_int min2_int max_two min_two max_three min_three max_four min_four   -- for this text's walks alone
set_option linter.unusedVariables false
set_option linter.unusedSimpArgs false

/-! ### dropperref05_IsState: function 76 -/
def dropperref05_IsState.f (a0_0 : Int) (l0_1 : List (S69)) (l0_2 : List (S71)) (a1 : Int) : Option (Bool) := if a1 ≥ 0 then (some (decide (a1 < (shl .i64 1 (l0_1.length : Int))))) else (some false)
set_option maxHeartbeats 8000000 in
set_option maxRecDepth 100000 in
theorem dropperref05_IsState.calls (a0_0 : Int) (A0_1 : Option Addr) (c0_1 : Nat) (l0_1 : List (S69)) (A0_2 : Option Addr) (c0_2 : Nat) (l0_2 : List (S71)) (a1 : Int) (r : Bool) (w : World) (hr0_1 : Kd.C k69 w A0_1 l0_1.length l0_1) (hc0_1 : l0_1.length ≤ c0_1) (hr0_2 : Kd.C k71 w A0_2 l0_2.length l0_2) (hc0_2 : l0_2.length ≤ c0_2) (h : dropperref05_IsState.f a0_0 l0_1 l0_2 a1 = some r) :
  Calls Tryd.prog 76 #[.agg #[.int .i64 a0_0, .slice A0_1 l0_1.length c0_1, .slice A0_2 l0_2.length c0_2], .int .i64 a1] w fun e w' => e = .returned (.bool r) ∧ Below w.heap.size w w' := by
 have hu25 := Tryd.underlying25
 have HR0_1 := Aside0.mk hr0_1
 have HC0_1 := Aside0.mk hc0_1
 clear hr0_1 hc0_1
 have HR0_2 := Aside0.mk hr0_2
 have HC0_2 := Aside0.mk hc0_2
 clear hr0_2 hc0_2
 have HB := Aside0.mk (Below.refl w.heap.size w)
 have H : (if a1 ≥ 0 then (some (decide (a1 < (shl .i64 1 (l0_1.length : Int))))) else (some false)) = some r := h
 clear h
 by_cases c3 : a1 ≥ 0
 ·
  rw [if_pos c3] at H
  have c3b0 : decide (0 ≤ a1) = true := decide_eq_true c3
  clear c3
  obtain ⟨ji4, hji4⟩ : ∃ j_ : Int, (shl .i64 1 (l0_1.length : Int)) = j_ := ⟨_, rfl⟩
  replace H : (some (decide (a1 < (ji4)))) = some r := by first | (rw [hji4] at H; exact H) | (simp only [hji4] at H ⊢; exact H)
  have hji4_ : (IntKind.i64.wrap (1 * 2 ^ min (l0_1.length : Int).toNat 64)) = ji4 := hji4
  have hji4z : (l0_1.length : Int) ≤ 64 → (IntKind.i64.wrap (1 * 2 ^ (l0_1.length : Int).toNat)) = ji4 := shl_small hji4
  have hji4p : (IntKind.i64.wrap (1 * 2 ^ min l0_1.length 64)) = ji4 := hji4_
  have hji4q : (l0_1.length : Int) ≤ 64 → (IntKind.i64.wrap (1 * 2 ^ l0_1.length)) = ji4 := hji4z
  have hji4r : (IntKind.i64.wrap (2 ^ min l0_1.length 64)) = ji4 := by have h_ := hji4p; rw [Int.one_mul] at h_; exact h_
  have hji4s : (l0_1.length : Int) ≤ 64 → (IntKind.i64.wrap (2 ^ l0_1.length)) = ji4 := fun hle_ => by have h_ := hji4q hle_; rw [Int.one_mul] at h_; exact h_
  have hji4u : (IntKind.i64.wrap (2 ^ min (l0_1.length : Int).toNat 64)) = ji4 := by have h_ := hji4_; rw [Int.one_mul] at h_; exact h_
  have hji4v : (l0_1.length : Int) ≤ 64 → (IntKind.i64.wrap (2 ^ (l0_1.length : Int).toNat)) = ji4 := fun hle_ => by have h_ := hji4z hle_; rw [Int.one_mul] at h_; exact h_
  have hji4y : (wrap64 (1 * 2 ^ min (l0_1.length : Int).toNat 64)) = ji4 := (i64_w _).symm.trans hji4_
  have hji4x : (l0_1.length : Int) ≤ 64 → (wrap64 (1 * 2 ^ (l0_1.length : Int).toNat)) = ji4 := fun h_ => (i64_w _).symm.trans (hji4z h_)
  obtain rfl := Option.some.inj H
  go_enter Tryd.func76, Tryd.ntmps76
  go_wp2_with (first | ((with_reducible refine gate_dst (N := 2) rfl ?_); (try (refine gate_guard (by rfl) ?_; dsimp only)); refine box_event ?hg (N := 2) ?hd (cs := #[.int .i64 a0_0, .slice A0_1 l0_1.length c0_1, .slice A0_2 l0_2.length c0_2]) (t := 25) ?hr ?_; (case hd => rfl); (case hg => rfl); (case hr => first | (go_simp; done) | (go_simp; rfl)); intro gb243 hg w5 hbox hb; have n0_ := Aside0.mk (below_step bel hb); have n1_ := Aside0.mk (hbox); have n2_ := Aside0.mk ((by rw [hg]; exact (below_size bel) : w.heap.size ≤ gb243)); have n3_ := n2_; clear HB; have HB := n0_; have BK243 := n1_; have GW243 := n2_; have GE243 := n3_; clear n0_ n1_ n2_ n3_; clear hb hbox hg; have hcz6_0 := blkc BK243.out 0 (.int .i64 a0_0) rfl; have hcz6_1 := blkc BK243.out 1 (.slice A0_1 l0_1.length c0_1) rfl; have hcz6_2 := blkc BK243.out 2 (.slice A0_2 l0_2.length c0_2) rfl; have hfz6_0 := blk_frozen BK243.out 0; have hfz6_1 := blk_frozen BK243.out 1; have hfz6_2 := blk_frozen BK243.out 2))
  go_ret
  exact ⟨by first | rfl | (simp [errW_none, errW_some] <;> rfl) | (simp only [← hji4]; first | rfl | (simp [errW_none, errW_some] <;> rfl)) | (simp [*, errW_none, errW_some] <;> rfl), by repeat (first | (with_reducible first | exact HB.out | apply below_alloc | apply pw_below_drewN | apply below_drew1 | refine below_set ?_ GE243.out) | exact HB.out)⟩
 ·
  rw [if_neg c3] at H
  have c3b0 : decide (0 ≤ a1) = false := decide_eq_false c3
  clear c3
  obtain rfl := Option.some.inj H
  go_enter Tryd.func76, Tryd.ntmps76
  go_wp2_with (first | ((with_reducible refine gate_dst (N := 2) rfl ?_); (try (refine gate_guard (by rfl) ?_; dsimp only)); refine box_event ?hg (N := 2) ?hd (cs := #[.int .i64 a0_0, .slice A0_1 l0_1.length c0_1, .slice A0_2 l0_2.length c0_2]) (t := 25) ?hr ?_; (case hd => rfl); (case hg => rfl); (case hr => first | (go_simp; done) | (go_simp; rfl)); intro gb243 hg w7 hbox hb; have n0_ := Aside0.mk (below_step bel hb); have n1_ := Aside0.mk (hbox); have n2_ := Aside0.mk ((by rw [hg]; exact (below_size bel) : w.heap.size ≤ gb243)); have n3_ := n2_; clear HB; have HB := n0_; have BK243 := n1_; have GW243 := n2_; have GE243 := n3_; clear n0_ n1_ n2_ n3_; clear hb hbox hg))
  go_ret
  exact ⟨by first | rfl | (simp [errW_none, errW_some] <;> rfl) | (simp [*, errW_none, errW_some] <;> rfl), by repeat (first | (with_reducible first | exact HB.out | apply below_alloc | apply pw_below_drewN | apply below_drew1 | refine below_set ?_ GE243.out) | exact HB.out)⟩

end Go.Proofs.YtoilhnmdemnknaaDoor.XFeed

-- Written by wip/xprint.py of this repo, over the kit's print.py: out of the translation; the oracles in it are by hand. Not trusted: Lean checks it.
namespace Go.Proofs.YtoilhnmdemnknaaDoor.XFeed
open Go.RowKit Go.Proofs.YtoilhnmdemnknaaDoorW.PrintWords Go.Proofs.YtoilhnmdemnknaaDoorW.PrintLast Go.Proofs.YtoilhnmdemnknaaDoorW.PrintMore
attribute [local go_sem] max2_int min2_int max_two min_two max_three min_three max_four min_four   -- for this text's walks alone
set_option linter.unusedVariables false
set_option linter.unusedSimpArgs false

/-! ### dropperref05_asked: function 48 -/
def dropperref05_asked.f (k : Nat) (a0_0 : Int) (l0_1 : List (S69)) (l0_2 : List (S71)) (a1 : Int) : Option (Int) := (dropperref05_Valid.f k a0_0 l0_1 l0_2).bind fun t245 => (if t245 = true then ((dropperref05_IsState.f a0_0 l0_1 l0_2 a1).bind fun t246 => (if t246 = true then (some 0) else (some 51))) else (some 50))
theorem dropperref05_asked.mono : ∀ a0 a1 a2 a3 k, LeO (dropperref05_asked.f k a0 a1 a2 a3) (dropperref05_asked.f (k + 1) a0 a1 a2 a3) := by
 intro a0 a1 a2 a3 k
 unfold dropperref05_asked.f
 repeat' first
   | (with_reducible exact dropperref05_Valid.mono _ _ _ _)
   | (with_reducible exact LeO.refl _)
   | (with_reducible exact LeO.none _)
   | (with_reducible refine LeO.ite ?_ ?_)
   | (with_reducible refine LeO.bind ?_ (fun _ => ?_))
   | exact dropperref05_Valid.mono _ _ _ _
   | exact LeO.none _
   | refine LeO.ite ?_ ?_
   | refine LeO.bind ?_ (fun _ => ?_)
set_option maxHeartbeats 8000000 in
set_option maxRecDepth 100000 in
theorem dropperref05_asked.calls (k : Nat) (a0_0 : Int) (A0_1 : Option Addr) (c0_1 : Nat) (l0_1 : List (S69)) (A0_2 : Option Addr) (c0_2 : Nat) (l0_2 : List (S71)) (a1 : Int) (r : Int) (w : World) (hr0_1 : Kd.C k69 w A0_1 l0_1.length l0_1) (hc0_1 : l0_1.length ≤ c0_1) (hr0_2 : Kd.C k71 w A0_2 l0_2.length l0_2) (hc0_2 : l0_2.length ≤ c0_2) (h : dropperref05_asked.f k a0_0 l0_1 l0_2 a1 = some r) :
  Calls Tryd.prog 48 #[.agg #[.int .i64 a0_0, .slice A0_1 l0_1.length c0_1, .slice A0_2 l0_2.length c0_2], .int .i64 a1] w fun e w' => e = .returned (.int .i64 r) ∧ Below w.heap.size w w' := by
 have hu25 := Tryd.underlying25
 have HR0_1 := Aside0.mk hr0_1
 have HC0_1 := Aside0.mk hc0_1
 clear hr0_1 hc0_1
 have HR0_2 := Aside0.mk hr0_2
 have HC0_2 := Aside0.mk hc0_2
 clear hr0_2 hc0_2
 have HB := Aside0.mk (Below.refl w.heap.size w)
 have H : ((dropperref05_Valid.f k a0_0 l0_1 l0_2).bind fun t245 => (if t245 = true then ((dropperref05_IsState.f a0_0 l0_1 l0_2 a1).bind fun t246 => (if t246 = true then (some 0) else (some 51))) else (some 50))) = some r := h
 clear h
 replace H := Option.bind_eq_some_iff.mp H
 obtain ⟨t245, A30, H⟩ := H
 replace H : (if t245 = true then ((dropperref05_IsState.f a0_0 l0_1 l0_2 a1).bind fun t246 => (if t246 = true then (some 0) else (some 51))) else (some 50)) = some r := H
 have A3 := Aside0.mk A30
 clear A30
 by_cases c4 : t245 = true
 ·
  subst c4
  have H1 : ((dropperref05_IsState.f a0_0 l0_1 l0_2 a1).bind fun t246 => (if t246 = true then (some 0) else (some 51))) = some r := by rw [if_pos rfl] at H; exact H
  clear H
  have H := H1
  clear H1
  replace H := Option.bind_eq_some_iff.mp H
  obtain ⟨t246, A50, H⟩ := H
  replace H : (if t246 = true then (some 0) else (some 51)) = some r := H
  have A5 := Aside0.mk A50
  clear A50
  by_cases c6 : t246 = true
  ·
   subst c6
   have H1 : (some 0) = some r := by rw [if_pos rfl] at H; exact H
   clear H
   have H := H1
   clear H1
   obtain rfl := Option.some.inj H
   go_enter Tryd.func48, Tryd.ntmps48
   go_wp2_with (first | ((with_reducible refine gate_dst (N := 2) rfl ?_); refine box_event ?hg (N := 2) ?hd (cs := #[.int .i64 a0_0, .slice A0_1 l0_1.length c0_1, .slice A0_2 l0_2.length c0_2]) (t := 25) ?hr ?_; (case hd => rfl); (case hg => rfl); (case hr => first | (go_simp; done) | (go_simp; rfl)); intro gb244 hg w7 hbox hb; have n0_ := Aside0.mk (below_step bel hb); have n1_ := Aside0.mk (hbox); have n2_ := Aside0.mk ((by rw [hg]; exact (below_size bel) : w.heap.size ≤ gb244)); have n3_ := n2_; clear HB; have HB := n0_; have BK244 := n1_; have GW244 := n2_; have GE244 := n3_; clear n0_ n1_ n2_ n3_; clear hb hbox hg; have hcz8_0 := blkc BK244.out 0 (.int .i64 a0_0) rfl; have hcz8_1 := blkc BK244.out 1 (.slice A0_1 l0_1.length c0_1) rfl; have hcz8_2 := blkc BK244.out 2 (.slice A0_2 l0_2.length c0_2) rfl; have hfz8_0 := blk_frozen BK244.out 0; have hfz8_1 := blk_frozen BK244.out 1; have hfz8_2 := blk_frozen BK244.out 2) | ((with_reducible refine gate_callee (f := 20) rfl ?_); refine goesL_ (some 7) rfl rfl Tryd.func20 (by kernel_rfl) rfl #[.agg #[.int .i64 a0_0, .slice A0_1 l0_1.length c0_1, .slice A0_2 l0_2.length c0_2]] rfl mapz ?_; (with_reducible refine (dropperref05_Valid.calls k a0_0 _ _ l0_1 _ _ l0_2 true _ ?side1 ?side2 ?side3 ?side4 A3.out).mono ?_); (case side1 => exact cbz HR0_1); (case side2 => exact HC0_1.out); (case side3 => exact cbz HR0_2); (case side4 => exact HC0_2.out); rintro e w9 ⟨rfl, hb⟩; refine ⟨_, rfl, ?_⟩; have n0_ := Aside0.mk (blk_below (g := gb244) blkz hb); have n1_ := Aside0.mk (below_step bel hb); clear BK244; clear HB; have BK244 := n0_; have HB := n1_; clear n0_ n1_; (try clear hb); (try clear hb2); (try clear hk); (try clear hi); have hcz10_0 := blkc BK244.out 0 (.int .i64 a0_0) rfl; have hcz10_1 := blkc BK244.out 1 (.slice A0_1 l0_1.length c0_1) rfl; have hcz10_2 := blkc BK244.out 2 (.slice A0_2 l0_2.length c0_2) rfl; have hfz10_0 := blk_frozen BK244.out 0; have hfz10_1 := blk_frozen BK244.out 1; have hfz10_2 := blk_frozen BK244.out 2) | ((with_reducible refine gate_callee (f := 76) rfl ?_); refine goesL_ (some 12) rfl rfl Tryd.func76 (by kernel_rfl) rfl #[.agg #[.int .i64 a0_0, .slice A0_1 l0_1.length c0_1, .slice A0_2 l0_2.length c0_2], .int .i64 a1] rfl mapz ?_; (with_reducible refine (dropperref05_IsState.calls a0_0 _ _ l0_1 _ _ l0_2 a1 true _ ?side1 ?side2 ?side3 ?side4 A5.out).mono ?_); (case side1 => exact cbz HR0_1); (case side2 => exact HC0_1.out); (case side3 => exact cbz HR0_2); (case side4 => exact HC0_2.out); rintro e w11 ⟨rfl, hb⟩; refine ⟨_, rfl, ?_⟩; have n0_ := Aside0.mk (blk_below (g := gb244) blkz hb); have n1_ := Aside0.mk (below_step bel hb); clear BK244; clear HB; have BK244 := n0_; have HB := n1_; clear n0_ n1_; (try clear hb); (try clear hb2); (try clear hk); (try clear hi)))
   go_ret
   exact ⟨by first | rfl | (simp [errW_none, errW_some] <;> rfl) | (simp [*, errW_none, errW_some] <;> rfl), by repeat (first | (with_reducible first | exact HB.out | apply below_alloc | apply pw_below_drewN | apply below_drew1 | refine below_set ?_ GE244.out) | exact HB.out)⟩
  ·
   replace c6 := Bool.eq_false_iff.mpr c6
   subst c6
   have H1 : (some 51) = some r := by rw [if_neg (show ¬ (false = true) by decide)] at H; exact H
   clear H
   have H := H1
   clear H1
   obtain rfl := Option.some.inj H
   go_enter Tryd.func48, Tryd.ntmps48
   go_wp2_with (first | ((with_reducible refine gate_dst (N := 2) rfl ?_); refine box_event ?hg (N := 2) ?hd (cs := #[.int .i64 a0_0, .slice A0_1 l0_1.length c0_1, .slice A0_2 l0_2.length c0_2]) (t := 25) ?hr ?_; (case hd => rfl); (case hg => rfl); (case hr => first | (go_simp; done) | (go_simp; rfl)); intro gb244 hg w12 hbox hb; have n0_ := Aside0.mk (below_step bel hb); have n1_ := Aside0.mk (hbox); have n2_ := Aside0.mk ((by rw [hg]; exact (below_size bel) : w.heap.size ≤ gb244)); have n3_ := n2_; clear HB; have HB := n0_; have BK244 := n1_; have GW244 := n2_; have GE244 := n3_; clear n0_ n1_ n2_ n3_; clear hb hbox hg; have hcz13_0 := blkc BK244.out 0 (.int .i64 a0_0) rfl; have hcz13_1 := blkc BK244.out 1 (.slice A0_1 l0_1.length c0_1) rfl; have hcz13_2 := blkc BK244.out 2 (.slice A0_2 l0_2.length c0_2) rfl; have hfz13_0 := blk_frozen BK244.out 0; have hfz13_1 := blk_frozen BK244.out 1; have hfz13_2 := blk_frozen BK244.out 2) | ((with_reducible refine gate_callee (f := 20) rfl ?_); refine goesL_ (some 7) rfl rfl Tryd.func20 (by kernel_rfl) rfl #[.agg #[.int .i64 a0_0, .slice A0_1 l0_1.length c0_1, .slice A0_2 l0_2.length c0_2]] rfl mapz ?_; (with_reducible refine (dropperref05_Valid.calls k a0_0 _ _ l0_1 _ _ l0_2 true _ ?side1 ?side2 ?side3 ?side4 A3.out).mono ?_); (case side1 => exact cbz HR0_1); (case side2 => exact HC0_1.out); (case side3 => exact cbz HR0_2); (case side4 => exact HC0_2.out); rintro e w14 ⟨rfl, hb⟩; refine ⟨_, rfl, ?_⟩; have n0_ := Aside0.mk (blk_below (g := gb244) blkz hb); have n1_ := Aside0.mk (below_step bel hb); clear BK244; clear HB; have BK244 := n0_; have HB := n1_; clear n0_ n1_; (try clear hb); (try clear hb2); (try clear hk); (try clear hi); have hcz15_0 := blkc BK244.out 0 (.int .i64 a0_0) rfl; have hcz15_1 := blkc BK244.out 1 (.slice A0_1 l0_1.length c0_1) rfl; have hcz15_2 := blkc BK244.out 2 (.slice A0_2 l0_2.length c0_2) rfl; have hfz15_0 := blk_frozen BK244.out 0; have hfz15_1 := blk_frozen BK244.out 1; have hfz15_2 := blk_frozen BK244.out 2) | ((with_reducible refine gate_callee (f := 76) rfl ?_); refine goesL_ (some 12) rfl rfl Tryd.func76 (by kernel_rfl) rfl #[.agg #[.int .i64 a0_0, .slice A0_1 l0_1.length c0_1, .slice A0_2 l0_2.length c0_2], .int .i64 a1] rfl mapz ?_; (with_reducible refine (dropperref05_IsState.calls a0_0 _ _ l0_1 _ _ l0_2 a1 false _ ?side1 ?side2 ?side3 ?side4 A5.out).mono ?_); (case side1 => exact cbz HR0_1); (case side2 => exact HC0_1.out); (case side3 => exact cbz HR0_2); (case side4 => exact HC0_2.out); rintro e w16 ⟨rfl, hb⟩; refine ⟨_, rfl, ?_⟩; have n0_ := Aside0.mk (blk_below (g := gb244) blkz hb); have n1_ := Aside0.mk (below_step bel hb); clear BK244; clear HB; have BK244 := n0_; have HB := n1_; clear n0_ n1_; (try clear hb); (try clear hb2); (try clear hk); (try clear hi)))
   go_ret
   exact ⟨by first | rfl | (simp [errW_none, errW_some] <;> rfl) | (simp [*, errW_none, errW_some] <;> rfl), by repeat (first | (with_reducible first | exact HB.out | apply below_alloc | apply pw_below_drewN | apply below_drew1 | refine below_set ?_ GE244.out) | exact HB.out)⟩
 ·
  replace c4 := Bool.eq_false_iff.mpr c4
  subst c4
  have H1 : (some 50) = some r := by rw [if_neg (show ¬ (false = true) by decide)] at H; exact H
  clear H
  have H := H1
  clear H1
  obtain rfl := Option.some.inj H
  go_enter Tryd.func48, Tryd.ntmps48
  go_wp2_with (first | ((with_reducible refine gate_dst (N := 2) rfl ?_); refine box_event ?hg (N := 2) ?hd (cs := #[.int .i64 a0_0, .slice A0_1 l0_1.length c0_1, .slice A0_2 l0_2.length c0_2]) (t := 25) ?hr ?_; (case hd => rfl); (case hg => rfl); (case hr => first | (go_simp; done) | (go_simp; rfl)); intro gb244 hg w17 hbox hb; have n0_ := Aside0.mk (below_step bel hb); have n1_ := Aside0.mk (hbox); have n2_ := Aside0.mk ((by rw [hg]; exact (below_size bel) : w.heap.size ≤ gb244)); have n3_ := n2_; clear HB; have HB := n0_; have BK244 := n1_; have GW244 := n2_; have GE244 := n3_; clear n0_ n1_ n2_ n3_; clear hb hbox hg; have hcz18_0 := blkc BK244.out 0 (.int .i64 a0_0) rfl; have hcz18_1 := blkc BK244.out 1 (.slice A0_1 l0_1.length c0_1) rfl; have hcz18_2 := blkc BK244.out 2 (.slice A0_2 l0_2.length c0_2) rfl; have hfz18_0 := blk_frozen BK244.out 0; have hfz18_1 := blk_frozen BK244.out 1; have hfz18_2 := blk_frozen BK244.out 2) | ((with_reducible refine gate_callee (f := 20) rfl ?_); refine goesL_ (some 7) rfl rfl Tryd.func20 (by kernel_rfl) rfl #[.agg #[.int .i64 a0_0, .slice A0_1 l0_1.length c0_1, .slice A0_2 l0_2.length c0_2]] rfl mapz ?_; (with_reducible refine (dropperref05_Valid.calls k a0_0 _ _ l0_1 _ _ l0_2 false _ ?side1 ?side2 ?side3 ?side4 A3.out).mono ?_); (case side1 => exact cbz HR0_1); (case side2 => exact HC0_1.out); (case side3 => exact cbz HR0_2); (case side4 => exact HC0_2.out); rintro e w19 ⟨rfl, hb⟩; refine ⟨_, rfl, ?_⟩; have n0_ := Aside0.mk (blk_below (g := gb244) blkz hb); have n1_ := Aside0.mk (below_step bel hb); clear BK244; clear HB; have BK244 := n0_; have HB := n1_; clear n0_ n1_; (try clear hb); (try clear hb2); (try clear hk); (try clear hi)))
  go_ret
  exact ⟨by first | rfl | (simp [errW_none, errW_some] <;> rfl) | (simp [*, errW_none, errW_some] <;> rfl), by repeat (first | (with_reducible first | exact HB.out | apply below_alloc | apply pw_below_drewN | apply below_drew1 | refine below_set ?_ GE244.out) | exact HB.out)⟩

end Go.Proofs.YtoilhnmdemnknaaDoor.XFeed

-- Written by wip/xprint.py of this repo, over the kit's print.py: out of the translation; the oracles in it are by hand. Not trusted: Lean checks it.
namespace Go.Proofs.YtoilhnmdemnknaaDoor.XFeed
open Go.RowKit Go.Proofs.YtoilhnmdemnknaaDoorW.PrintWords Go.Proofs.YtoilhnmdemnknaaDoorW.PrintLast Go.Proofs.YtoilhnmdemnknaaDoorW.PrintMore
attribute [local go_sem] max2_int min2_int max_two min_two max_three min_three max_four min_four   -- for this text's walks alone
set_option linter.unusedVariables false
set_option linter.unusedSimpArgs false

/-! ### dropperref05_Why: function 25 -/
def dropperref05_Why.f (k : Nat) (a0_0 : Int) (l0_1 : List (S69)) (l0_2 : List (S71)) (a1 : Int) (a2 : Int) : Option (Int) := (dropperref05_asked.f k a0_0 l0_1 l0_2 a1).bind fun t362 => (if t362 = 0 then ((dropperref05_section.f a0_0 l0_1 l0_2 a2).bind fun t363 => (if t363 = true then (some 0) else (some 2))) else (some t362))
theorem dropperref05_Why.mono : ∀ a0 a1 a2 a3 a4 k, LeO (dropperref05_Why.f k a0 a1 a2 a3 a4) (dropperref05_Why.f (k + 1) a0 a1 a2 a3 a4) := by
 intro a0 a1 a2 a3 a4 k
 unfold dropperref05_Why.f
 repeat' first
   | (with_reducible exact dropperref05_asked.mono _ _ _ _ _)
   | (with_reducible exact LeO.refl _)
   | (with_reducible exact LeO.none _)
   | (with_reducible refine LeO.ite ?_ ?_)
   | (with_reducible refine LeO.bind ?_ (fun _ => ?_))
   | exact dropperref05_asked.mono _ _ _ _ _
   | exact LeO.none _
   | refine LeO.ite ?_ ?_
   | refine LeO.bind ?_ (fun _ => ?_)
set_option maxHeartbeats 8000000 in
set_option maxRecDepth 100000 in
theorem dropperref05_Why.calls (k : Nat) (a0_0 : Int) (A0_1 : Option Addr) (c0_1 : Nat) (l0_1 : List (S69)) (A0_2 : Option Addr) (c0_2 : Nat) (l0_2 : List (S71)) (a1 : Int) (a2 : Int) (r : Int) (w : World) (hr0_1 : Kd.C k69 w A0_1 l0_1.length l0_1) (hc0_1 : l0_1.length ≤ c0_1) (hr0_2 : Kd.C k71 w A0_2 l0_2.length l0_2) (hc0_2 : l0_2.length ≤ c0_2) (h : dropperref05_Why.f k a0_0 l0_1 l0_2 a1 a2 = some r) :
  Calls Tryd.prog 25 #[.agg #[.int .i64 a0_0, .slice A0_1 l0_1.length c0_1, .slice A0_2 l0_2.length c0_2], .int .i64 a1, .int .i64 a2] w fun e w' => e = .returned (.int .i64 r) ∧ Below w.heap.size w w' := by
 have hu25 := Tryd.underlying25
 have HR0_1 := Aside0.mk hr0_1
 have HC0_1 := Aside0.mk hc0_1
 clear hr0_1 hc0_1
 have HR0_2 := Aside0.mk hr0_2
 have HC0_2 := Aside0.mk hc0_2
 clear hr0_2 hc0_2
 have HB := Aside0.mk (Below.refl w.heap.size w)
 have H : ((dropperref05_asked.f k a0_0 l0_1 l0_2 a1).bind fun t362 => (if t362 = 0 then ((dropperref05_section.f a0_0 l0_1 l0_2 a2).bind fun t363 => (if t363 = true then (some 0) else (some 2))) else (some t362))) = some r := h
 clear h
 replace H := Option.bind_eq_some_iff.mp H
 obtain ⟨t362, A40, H⟩ := H
 replace H : (if t362 = 0 then ((dropperref05_section.f a0_0 l0_1 l0_2 a2).bind fun t363 => (if t363 = true then (some 0) else (some 2))) else (some t362)) = some r := H
 have A4 := Aside0.mk A40
 clear A40
 by_cases c5 : t362 = 0
 ·
  rw [if_pos c5] at H
  have c5b0 : (t362 == 0) = true := beq_iff_eq.mpr c5
  have c5b1 : (t362 != 0) = false := bne_eq_false_iff_eq.mpr c5
  clear c5
  replace H := Option.bind_eq_some_iff.mp H
  obtain ⟨t363, A60, H⟩ := H
  replace H : (if t363 = true then (some 0) else (some 2)) = some r := H
  have A6 := Aside0.mk A60
  clear A60
  by_cases c7 : t363 = true
  ·
   subst c7
   have H1 : (some 0) = some r := by rw [if_pos rfl] at H; exact H
   clear H
   have H := H1
   clear H1
   obtain rfl := Option.some.inj H
   go_enter Tryd.func25, Tryd.ntmps25
   go_wp2_with (first | ((with_reducible refine gate_dst (N := 3) rfl ?_); refine box_event ?hg (N := 3) ?hd (cs := #[.int .i64 a0_0, .slice A0_1 l0_1.length c0_1, .slice A0_2 l0_2.length c0_2]) (t := 25) ?hr ?_; (case hd => rfl); (case hg => rfl); (case hr => first | (go_simp; done) | (go_simp; rfl)); intro gb361 hg w8 hbox hb; have n0_ := Aside0.mk (below_step bel hb); have n1_ := Aside0.mk (hbox); have n2_ := Aside0.mk ((by rw [hg]; exact (below_size bel) : w.heap.size ≤ gb361)); have n3_ := n2_; clear HB; have HB := n0_; have BK361 := n1_; have GW361 := n2_; have GE361 := n3_; clear n0_ n1_ n2_ n3_; clear hb hbox hg; have hcz9_0 := blkc BK361.out 0 (.int .i64 a0_0) rfl; have hcz9_1 := blkc BK361.out 1 (.slice A0_1 l0_1.length c0_1) rfl; have hcz9_2 := blkc BK361.out 2 (.slice A0_2 l0_2.length c0_2) rfl; have hfz9_0 := blk_frozen BK361.out 0; have hfz9_1 := blk_frozen BK361.out 1; have hfz9_2 := blk_frozen BK361.out 2) | ((with_reducible refine gate_callee (f := 48) rfl ?_); refine goesL_ (some 10) rfl rfl Tryd.func48 (by kernel_rfl) rfl #[.agg #[.int .i64 a0_0, .slice A0_1 l0_1.length c0_1, .slice A0_2 l0_2.length c0_2], .int .i64 a1] rfl mapz ?_; (with_reducible refine (dropperref05_asked.calls k a0_0 _ _ l0_1 _ _ l0_2 a1 t362 _ ?side1 ?side2 ?side3 ?side4 A4.out).mono ?_); (case side1 => exact cbz HR0_1); (case side2 => exact HC0_1.out); (case side3 => exact cbz HR0_2); (case side4 => exact HC0_2.out); rintro e w10 ⟨rfl, hb⟩; refine ⟨_, rfl, ?_⟩; have n0_ := Aside0.mk (blk_below (g := gb361) blkz hb); have n1_ := Aside0.mk (below_step bel hb); clear BK361; clear HB; have BK361 := n0_; have HB := n1_; clear n0_ n1_; (try clear hb); (try clear hb2); (try clear hk); (try clear hi); have hcz11_0 := blkc BK361.out 0 (.int .i64 a0_0) rfl; have hcz11_1 := blkc BK361.out 1 (.slice A0_1 l0_1.length c0_1) rfl; have hcz11_2 := blkc BK361.out 2 (.slice A0_2 l0_2.length c0_2) rfl; have hfz11_0 := blk_frozen BK361.out 0; have hfz11_1 := blk_frozen BK361.out 1; have hfz11_2 := blk_frozen BK361.out 2) | ((with_reducible refine gate_callee (f := 58) rfl ?_); refine goesL_ (some 16) rfl rfl Tryd.func58 (by kernel_rfl) rfl #[.agg #[.int .i64 a0_0, .slice A0_1 l0_1.length c0_1, .slice A0_2 l0_2.length c0_2], .int .i64 a2] rfl mapz ?_; (with_reducible refine (dropperref05_section.calls a0_0 _ _ l0_1 _ _ l0_2 a2 true _ ?side1 ?side2 ?side3 ?side4 A6.out).mono ?_); (case side1 => exact cbz HR0_1); (case side2 => exact HC0_1.out); (case side3 => exact cbz HR0_2); (case side4 => exact HC0_2.out); rintro e w12 ⟨rfl, hb⟩; refine ⟨_, rfl, ?_⟩; have n0_ := Aside0.mk (blk_below (g := gb361) blkz hb); have n1_ := Aside0.mk (below_step bel hb); clear BK361; clear HB; have BK361 := n0_; have HB := n1_; clear n0_ n1_; (try clear hb); (try clear hb2); (try clear hk); (try clear hi)))
   go_ret
   exact ⟨by first | rfl | (simp [errW_none, errW_some] <;> rfl) | (simp [*, errW_none, errW_some] <;> rfl), by repeat (first | (with_reducible first | exact HB.out | apply below_alloc | apply pw_below_drewN | apply below_drew1 | refine below_set ?_ GE361.out) | exact HB.out)⟩
  ·
   replace c7 := Bool.eq_false_iff.mpr c7
   subst c7
   have H1 : (some 2) = some r := by rw [if_neg (show ¬ (false = true) by decide)] at H; exact H
   clear H
   have H := H1
   clear H1
   obtain rfl := Option.some.inj H
   go_enter Tryd.func25, Tryd.ntmps25
   go_wp2_with (first | ((with_reducible refine gate_dst (N := 3) rfl ?_); refine box_event ?hg (N := 3) ?hd (cs := #[.int .i64 a0_0, .slice A0_1 l0_1.length c0_1, .slice A0_2 l0_2.length c0_2]) (t := 25) ?hr ?_; (case hd => rfl); (case hg => rfl); (case hr => first | (go_simp; done) | (go_simp; rfl)); intro gb361 hg w13 hbox hb; have n0_ := Aside0.mk (below_step bel hb); have n1_ := Aside0.mk (hbox); have n2_ := Aside0.mk ((by rw [hg]; exact (below_size bel) : w.heap.size ≤ gb361)); have n3_ := n2_; clear HB; have HB := n0_; have BK361 := n1_; have GW361 := n2_; have GE361 := n3_; clear n0_ n1_ n2_ n3_; clear hb hbox hg; have hcz14_0 := blkc BK361.out 0 (.int .i64 a0_0) rfl; have hcz14_1 := blkc BK361.out 1 (.slice A0_1 l0_1.length c0_1) rfl; have hcz14_2 := blkc BK361.out 2 (.slice A0_2 l0_2.length c0_2) rfl; have hfz14_0 := blk_frozen BK361.out 0; have hfz14_1 := blk_frozen BK361.out 1; have hfz14_2 := blk_frozen BK361.out 2) | ((with_reducible refine gate_callee (f := 48) rfl ?_); refine goesL_ (some 10) rfl rfl Tryd.func48 (by kernel_rfl) rfl #[.agg #[.int .i64 a0_0, .slice A0_1 l0_1.length c0_1, .slice A0_2 l0_2.length c0_2], .int .i64 a1] rfl mapz ?_; (with_reducible refine (dropperref05_asked.calls k a0_0 _ _ l0_1 _ _ l0_2 a1 t362 _ ?side1 ?side2 ?side3 ?side4 A4.out).mono ?_); (case side1 => exact cbz HR0_1); (case side2 => exact HC0_1.out); (case side3 => exact cbz HR0_2); (case side4 => exact HC0_2.out); rintro e w15 ⟨rfl, hb⟩; refine ⟨_, rfl, ?_⟩; have n0_ := Aside0.mk (blk_below (g := gb361) blkz hb); have n1_ := Aside0.mk (below_step bel hb); clear BK361; clear HB; have BK361 := n0_; have HB := n1_; clear n0_ n1_; (try clear hb); (try clear hb2); (try clear hk); (try clear hi); have hcz16_0 := blkc BK361.out 0 (.int .i64 a0_0) rfl; have hcz16_1 := blkc BK361.out 1 (.slice A0_1 l0_1.length c0_1) rfl; have hcz16_2 := blkc BK361.out 2 (.slice A0_2 l0_2.length c0_2) rfl; have hfz16_0 := blk_frozen BK361.out 0; have hfz16_1 := blk_frozen BK361.out 1; have hfz16_2 := blk_frozen BK361.out 2) | ((with_reducible refine gate_callee (f := 58) rfl ?_); refine goesL_ (some 16) rfl rfl Tryd.func58 (by kernel_rfl) rfl #[.agg #[.int .i64 a0_0, .slice A0_1 l0_1.length c0_1, .slice A0_2 l0_2.length c0_2], .int .i64 a2] rfl mapz ?_; (with_reducible refine (dropperref05_section.calls a0_0 _ _ l0_1 _ _ l0_2 a2 false _ ?side1 ?side2 ?side3 ?side4 A6.out).mono ?_); (case side1 => exact cbz HR0_1); (case side2 => exact HC0_1.out); (case side3 => exact cbz HR0_2); (case side4 => exact HC0_2.out); rintro e w17 ⟨rfl, hb⟩; refine ⟨_, rfl, ?_⟩; have n0_ := Aside0.mk (blk_below (g := gb361) blkz hb); have n1_ := Aside0.mk (below_step bel hb); clear BK361; clear HB; have BK361 := n0_; have HB := n1_; clear n0_ n1_; (try clear hb); (try clear hb2); (try clear hk); (try clear hi)))
   go_ret
   exact ⟨by first | rfl | (simp [errW_none, errW_some] <;> rfl) | (simp [*, errW_none, errW_some] <;> rfl), by repeat (first | (with_reducible first | exact HB.out | apply below_alloc | apply pw_below_drewN | apply below_drew1 | refine below_set ?_ GE361.out) | exact HB.out)⟩
 ·
  rw [if_neg c5] at H
  have c5b0 : (t362 == 0) = false := beq_eq_false_iff_ne.mpr c5
  have c5b1 : (t362 != 0) = true := bne_iff_ne.mpr c5
  obtain rfl := Option.some.inj H
  go_enter Tryd.func25, Tryd.ntmps25
  go_wp2_with (first | ((with_reducible refine gate_dst (N := 3) rfl ?_); refine box_event ?hg (N := 3) ?hd (cs := #[.int .i64 a0_0, .slice A0_1 l0_1.length c0_1, .slice A0_2 l0_2.length c0_2]) (t := 25) ?hr ?_; (case hd => rfl); (case hg => rfl); (case hr => first | (go_simp; done) | (go_simp; rfl)); intro gb361 hg w18 hbox hb; have n0_ := Aside0.mk (below_step bel hb); have n1_ := Aside0.mk (hbox); have n2_ := Aside0.mk ((by rw [hg]; exact (below_size bel) : w.heap.size ≤ gb361)); have n3_ := n2_; clear HB; have HB := n0_; have BK361 := n1_; have GW361 := n2_; have GE361 := n3_; clear n0_ n1_ n2_ n3_; clear hb hbox hg; have hcz19_0 := blkc BK361.out 0 (.int .i64 a0_0) rfl; have hcz19_1 := blkc BK361.out 1 (.slice A0_1 l0_1.length c0_1) rfl; have hcz19_2 := blkc BK361.out 2 (.slice A0_2 l0_2.length c0_2) rfl; have hfz19_0 := blk_frozen BK361.out 0; have hfz19_1 := blk_frozen BK361.out 1; have hfz19_2 := blk_frozen BK361.out 2) | ((with_reducible refine gate_callee (f := 48) rfl ?_); refine goesL_ (some 10) rfl rfl Tryd.func48 (by kernel_rfl) rfl #[.agg #[.int .i64 a0_0, .slice A0_1 l0_1.length c0_1, .slice A0_2 l0_2.length c0_2], .int .i64 a1] rfl mapz ?_; (with_reducible refine (dropperref05_asked.calls k a0_0 _ _ l0_1 _ _ l0_2 a1 t362 _ ?side1 ?side2 ?side3 ?side4 A4.out).mono ?_); (case side1 => exact cbz HR0_1); (case side2 => exact HC0_1.out); (case side3 => exact cbz HR0_2); (case side4 => exact HC0_2.out); rintro e w20 ⟨rfl, hb⟩; refine ⟨_, rfl, ?_⟩; have n0_ := Aside0.mk (blk_below (g := gb361) blkz hb); have n1_ := Aside0.mk (below_step bel hb); clear BK361; clear HB; have BK361 := n0_; have HB := n1_; clear n0_ n1_; (try clear hb); (try clear hb2); (try clear hk); (try clear hi)))
  go_ret
  exact ⟨by first | rfl | (simp [errW_none, errW_some] <;> rfl) | (simp [*, errW_none, errW_some] <;> rfl), by repeat (first | (with_reducible first | exact HB.out | apply below_alloc | apply pw_below_drewN | apply below_drew1 | refine below_set ?_ GE361.out) | exact HB.out)⟩

end Go.Proofs.YtoilhnmdemnknaaDoor.XFeed

-- Written by wip/xprint.py of this repo, over the kit's print.py: out of the translation; the oracles in it are by hand. Not trusted: Lean checks it.
namespace Go.Proofs.YtoilhnmdemnknaaDoor.XFeed
open Go.RowKit Go.Proofs.YtoilhnmdemnknaaDoorW.PrintWords Go.Proofs.YtoilhnmdemnknaaDoorW.PrintLast Go.Proofs.YtoilhnmdemnknaaDoorW.PrintMore
attribute [local go_sem] max2_int min2_int max_two min_two max_three min_three max_four min_four   -- for this text's walks alone
set_option linter.unusedVariables false
set_option linter.unusedSimpArgs false

/-! ### dropperref05_closed: function 61 -/
def dropperref05_closed.f (a0 : Int) (a1 : Int) : Option (Bool) := if 0 ≤ a1 then (some ((Go.bits .and .i64 (shr .i64 a0 a1) 1) == 1)) else (none)
set_option maxHeartbeats 8000000 in
set_option maxRecDepth 100000 in
theorem dropperref05_closed.calls (a0 : Int) (a1 : Int) (r : Bool) (w : World) (h : dropperref05_closed.f a0 a1 = some r) :
  Calls Tryd.prog 61 #[.int .i64 a0, .int .i64 a1] w fun e w' => e = .returned (.bool r) ∧ Drawn0 w w' := by
 have H : (if 0 ≤ a1 then (some ((Go.bits .and .i64 (shr .i64 a0 a1) 1) == 1)) else (none)) = some r := h
 clear h
 by_cases c3 : 0 ≤ a1
 ·
  rw [if_pos c3] at H
  have c3b0 := eq_true c3
  have c3b1 : decide (0 ≤ a1) = true := decide_eq_true c3
  clear c3
  obtain ⟨ji4, hji4⟩ : ∃ j_ : Int, (shr .i64 a0 a1) = j_ := ⟨_, rfl⟩
  replace H : (some ((Go.bits .and .i64 (ji4) 1) == 1)) = some r := by first | (rw [hji4] at H; exact H) | (simp only [hji4] at H ⊢; exact H)
  have hji4_ : (a0 / 2 ^ min a1.toNat 64) = ji4 := hji4
  have hji4z : a1 ≤ 64 → (a0 / 2 ^ a1.toNat) = ji4 := shr_small hji4
  obtain rfl := Option.some.inj H
  go_enter Tryd.func61, Tryd.ntmps61
  go_wp2
  go_ret
  exact ⟨by first | rfl | (simp; done) | (simp only [← hji4] <;> (first | rfl | simp)) | (simp [*]; done), drz⟩
 ·
  rw [if_neg c3] at H
  exact absurd H (by simp)

end Go.Proofs.YtoilhnmdemnknaaDoor.XFeed

-- Written by wip/xprint.py of this repo, over the kit's print.py: out of the translation; the oracles in it are by hand. Not trusted: Lean checks it.
namespace Go.Proofs.YtoilhnmdemnknaaDoor.XFeed
open Go.RowKit Go.Proofs.YtoilhnmdemnknaaDoorW.PrintWords Go.Proofs.YtoilhnmdemnknaaDoorW.PrintLast Go.Proofs.YtoilhnmdemnknaaDoorW.PrintMore
attribute [local go_sem] max2_int min2_int max_two min_two max_three min_three max_four min_four   -- for this text's walks alone
set_option linter.unusedVariables false
set_option linter.unusedSimpArgs false

/-! ### dropperref05_from: function 67 -/
mutual
def dropperref05_from.l0 : Nat → Int → List Bool → Bool → Int → List (S69) → List (S71) → Option (List Bool)
 | 0, _, _, _, _, _, _ => none
 | k + 1, x1, x7, x8, x248000, x248001, x248002 => if x8 = true then (dropperref05_from.l1 k x1 x7 false 0 x248000 x248001 x248002) else (some x7)
def dropperref05_from.l1 : Nat → Int → List Bool → Bool → Int → Int → List (S69) → List (S71) → Option (List Bool)
 | 0, _, _, _, _, _, _, _ => none
 | k + 1, x1, x7, x8, x9, x248000, x248001, x248002 => if x9 < (x248001.length : Int) then (if 0 ≤ x9 then ((dropperref05_closed.f x1 x9).bind fun t254 => (if t254 = true then (if 0 ≤ ((rd_T69 x248001 x9).f0) then (if ((rd_T69 x248001 x9).f0) < (x7.length : Int) then (if 0 ≤ ((rd_T69 x248001 x9).f1) then (if ((rd_T69 x248001 x9).f1) < (x7.length : Int) then (if ((rdOf false x7 ((rd_T69 x248001 x9).f0)) != (rdOf false x7 ((rd_T69 x248001 x9).f1))) = true then (dropperref05_from.l1 k x1 ((x7.set (((rd_T69 x248001 x9).f0) : Int).toNat true).set (((rd_T69 x248001 x9).f1) : Int).toNat true) true (wrap64 (x9 + 1)) x248000 x248001 x248002) else (dropperref05_from.l1 k x1 x7 x8 (wrap64 (x9 + 1)) x248000 x248001 x248002)) else (none)) else (none)) else (none)) else (none)) else (dropperref05_from.l1 k x1 x7 x8 (wrap64 (x9 + 1)) x248000 x248001 x248002))) else (none)) else (dropperref05_from.l0 k x1 x7 x8 x248000 x248001 x248002)
end
def dropperref05_from.f (k : Nat) (a0_0 : Int) (l0_1 : List (S69)) (l0_2 : List (S71)) (a1 : Int) (a2 : Int) : Option (List Bool) := if 0 ≤ a0_0 then (if (a0_0 : Int).toNat ≤ 281474976710656 then ((some (List.replicate (a0_0 : Int).toNat false : List Bool)).bind fun y248 => (if 0 ≤ a2 then (if a2 < (y248.length : Int) then (dropperref05_from.l0 k a1 (y248.set (a2 : Int).toNat true) true a0_0 l0_1 l0_2) else (none)) else (none))) else (none)) else (none)
theorem dropperref05_from.mono_l : ∀ k, (∀ y0 y1 y2 y3 y4 y5, LeO (dropperref05_from.l0 k y0 y1 y2 y3 y4 y5) (dropperref05_from.l0 (k + 1) y0 y1 y2 y3 y4 y5)) ∧ (∀ y0 y1 y2 y3 y4 y5 y6, LeO (dropperref05_from.l1 k y0 y1 y2 y3 y4 y5 y6) (dropperref05_from.l1 (k + 1) y0 y1 y2 y3 y4 y5 y6))
 | 0 => ⟨fun _ _ _ _ _ _ r h => by simp [dropperref05_from.l0] at h, fun _ _ _ _ _ _ _ r h => by simp [dropperref05_from.l1] at h⟩
 | k + 1 => by
  obtain ⟨ih0, ih1⟩ := dropperref05_from.mono_l k
  refine ⟨?_, ?_⟩
  ·
   intro y0 y1 y2 y3 y4 y5
   unfold dropperref05_from.l0
   repeat' first
   | (with_reducible exact ih0 _ _ _ _ _ _)
   | (with_reducible exact ih1 _ _ _ _ _ _ _)
   | (with_reducible exact LeO.refl _)
   | (with_reducible exact LeO.none _)
   | (with_reducible refine LeO.ite ?_ ?_)
   | (with_reducible refine LeO.bind ?_ (fun _ => ?_))
   | exact ih0 _ _ _ _ _ _
   | exact ih1 _ _ _ _ _ _ _
   | exact LeO.none _
   | refine LeO.ite ?_ ?_
   | refine LeO.bind ?_ (fun _ => ?_)
  ·
   intro y0 y1 y2 y3 y4 y5 y6
   unfold dropperref05_from.l1
   repeat' first
   | (with_reducible exact ih0 _ _ _ _ _ _)
   | (with_reducible exact ih1 _ _ _ _ _ _ _)
   | (with_reducible exact LeO.refl _)
   | (with_reducible exact LeO.none _)
   | (with_reducible refine LeO.ite ?_ ?_)
   | (with_reducible refine LeO.bind ?_ (fun _ => ?_))
   | exact ih0 _ _ _ _ _ _
   | exact ih1 _ _ _ _ _ _ _
   | exact LeO.none _
   | refine LeO.ite ?_ ?_
   | refine LeO.bind ?_ (fun _ => ?_)
theorem dropperref05_from.mono : ∀ a0 a1 a2 a3 a4 k, LeO (dropperref05_from.f k a0 a1 a2 a3 a4) (dropperref05_from.f (k + 1) a0 a1 a2 a3 a4) := by
 intro a0 a1 a2 a3 a4 k
 obtain ⟨ih0, ih1⟩ := dropperref05_from.mono_l k
 unfold dropperref05_from.f
 repeat' first
   | (with_reducible exact ih0 _ _ _ _ _ _)
   | (with_reducible exact ih1 _ _ _ _ _ _ _)
   | (with_reducible exact LeO.refl _)
   | (with_reducible exact LeO.none _)
   | (with_reducible refine LeO.ite ?_ ?_)
   | (with_reducible refine LeO.bind ?_ (fun _ => ?_))
   | exact ih0 _ _ _ _ _ _
   | exact ih1 _ _ _ _ _ _ _
   | exact LeO.none _
   | refine LeO.ite ?_ ?_
   | refine LeO.bind ?_ (fun _ => ?_)
def dropperref05_from.T10 : Bool × List (List Nat × List Nat) := (true, [([], []), ([], []), ([0, 1], [0, 1]), ([2, 2], [2]), ([3], [3]), ([3], [3]), ([5, 3], [3, 5]), ([4, 6, 3], [3, 4, 6]), ([7, 3], [3, 7]), ([3], [3]), ([3], [3]), ([10, 3], [3, 10]), ([9, 11, 3], [3, 9, 11]), ([12, 3], [3, 12]), ([8, 13, 3], [3, 8, 13]), ([3, 14], [3, 14])])
def dropperref05_from.B10 : List Nat := [0, 0, 3, 7, 15, 15, 47, 127, 255, 15, 15, 1039, 3599, 7695, 16383, 32767]
theorem dropperref05_from.tab10 : rtab .any (opsOf Tryd.f67 10) = dropperref05_from.T10 := by kernel_rfl
theorem dropperref05_from.bits10 : waitsOk dropperref05_from.T10.2 dropperref05_from.B10 = true := by kernel_rfl
def dropperref05_from.T11 : Bool × List (List Nat × List Nat) := (true, [([], []), ([], []), ([1], [1]), ([], []), ([], []), ([4], [4]), ([0, 2, 0, 1, 2], [0, 2]), ([6, 0, 1, 2], [6]), ([3, 5, 0, 1, 2, 3, 4, 5, 6, 7], [3, 5]), ([8, 7, 0, 1, 2, 3, 4, 5, 6, 7], [8]), ([9, 0, 1, 2, 3, 4, 5, 6, 7, 8, 9], [])])
def dropperref05_from.B11 : List Nat := [0, 0, 2, 0, 0, 16, 7, 71, 255, 511, 1023]
theorem dropperref05_from.tab11 : rtab .any (opsOf Tryd.f67 11) = dropperref05_from.T11 := by kernel_rfl
theorem dropperref05_from.bits11 : waitsOk dropperref05_from.T11.2 dropperref05_from.B11 = true := by kernel_rfl
set_option maxHeartbeats 8000000 in
set_option maxRecDepth 100000 in
theorem dropperref05_from.calls (k : Nat) (a0_0 : Int) (A0_1 : Option Addr) (c0_1 : Nat) (l0_1 : List (S69)) (A0_2 : Option Addr) (c0_2 : Nat) (l0_2 : List (S71)) (a1 : Int) (a2 : Int) (r : List Bool) (w : World) (hr0_1 : Kd.C k69 w A0_1 l0_1.length l0_1) (hc0_1 : l0_1.length ≤ c0_1) (hr0_2 : Kd.C k71 w A0_2 l0_2.length l0_2) (hc0_2 : l0_2.length ≤ c0_2) (h : dropperref05_from.f k a0_0 l0_1 l0_2 a1 a2 = some r) :
  Calls Tryd.prog 67 #[.agg #[.int .i64 a0_0, .slice A0_1 l0_1.length c0_1, .slice A0_2 l0_2.length c0_2], .int .i64 a1, .int .i64 a2] w fun e w' => ∃ v0_ : Value, e = .returned (v0_) ∧ Kd.R Kd.bool 4 w' w.heap.size (fun _ => True) v0_ r ∧ Below w.heap.size w w' := by
 have hu25 := Tryd.underlying25
 have hu69 := Tryd.underlying69
 have HR0_1 := Aside0.mk hr0_1
 have HC0_1 := Aside0.mk hc0_1
 clear hr0_1 hc0_1
 have HR0_2 := Aside0.mk hr0_2
 have HC0_2 := Aside0.mk hc0_2
 clear hr0_2 hc0_2
 have HB := Aside0.mk (Below.refl w.heap.size w)
 have H : (if 0 ≤ a0_0 then (if (a0_0 : Int).toNat ≤ 281474976710656 then ((some (List.replicate (a0_0 : Int).toNat false : List Bool)).bind fun y248 => (if 0 ≤ a2 then (if a2 < (y248.length : Int) then (dropperref05_from.l0 k a1 (y248.set (a2 : Int).toNat true) true a0_0 l0_1 l0_2) else (none)) else (none))) else (none)) else (none)) = some r := h
 clear h
 by_cases c4 : 0 ≤ a0_0
 ·
  rw [if_pos c4] at H
  have c4b0 := eq_true c4
  have c4b1 : decide (0 ≤ a0_0) = true := decide_eq_true c4
  clear c4
  by_cases c5 : (a0_0 : Int).toNat ≤ 281474976710656
  ·
   rw [if_pos c5] at H
   have c5b0 := eq_true c5
   have c5b1 : decide ((a0_0 : Int).toNat ≤ 281474976710656) = true := decide_eq_true c5
   clear c5
   obtain ⟨y248, hy248⟩ : ∃ y_ : List Bool, y_ = (List.replicate (a0_0 : Int).toNat false) := ⟨_, rfl⟩
   replace H : (if 0 ≤ a2 then (if a2 < (y248.length : Int) then (dropperref05_from.l0 k a1 (y248.set (a2 : Int).toNat true) true a0_0 l0_1 l0_2) else (none)) else (none)) = some r := by first | (rw [hy248]; with_reducible exact H) | (have H2_ := (Option.bind_some _ _).symm.trans H; rw [hy248]; with_reducible exact H2_) | (have H2_ := (Option.bind_some _ _).symm.trans H; with_reducible exact H2_) | with_reducible exact H | (rw [hy248]; exact H) | exact H
   have Ny248 := Aside0.mk hy248
   clear hy248
   by_cases c6 : 0 ≤ a2
   ·
    rw [if_pos c6] at H
    have c6b0 : decide (0 ≤ a2) = true := decide_eq_true c6
    clear c6
    by_cases c7 : a2 < (y248.length : Int)
    ·
     rw [if_pos c7] at H
     have c7b0 : decide (a2 < (y248.length : Int)) = true := decide_eq_true c7
     clear c7
     obtain ⟨y251, hy251⟩ : ∃ y_ : List Bool, y_ = (y248.set (a2 : Int).toNat true) := ⟨_, rfl⟩
     replace H : (dropperref05_from.l0 k a1 y251 true a0_0 l0_1 l0_2) = some r := by first | (rw [hy251]; with_reducible exact H) | (have H2_ := (Option.bind_some _ _).symm.trans H; rw [hy251]; with_reducible exact H2_) | (have H2_ := (Option.bind_some _ _).symm.trans H; with_reducible exact H2_) | with_reducible exact H | (rw [hy251]; exact H) | exact H
     have Ny251 := Aside0.mk hy251
     clear hy251
     have H' := Aside0.mk H
     clear H
     go_enter Tryd.func67, Tryd.ntmps67
     go_wp2_with (first | ((with_reducible refine gate_dst (N := 3) rfl ?_); refine box_event ?hg (N := 3) ?hd (cs := #[.int .i64 a0_0, .slice A0_1 l0_1.length c0_1, .slice A0_2 l0_2.length c0_2]) (t := 25) ?hr ?_; (case hd => rfl); (case hg => rfl); (case hr => first | (go_simp; done) | (go_simp; rfl)); intro gb247 hg w9 hbox hb; have n0_ := Aside0.mk (below_step bel hb); have n1_ := Aside0.mk (hbox); have n2_ := Aside0.mk ((by rw [hg]; exact (below_size bel) : w.heap.size ≤ gb247)); have n3_ := n2_; clear HB; have HB := n0_; have BK247 := n1_; have GW247 := n2_; have GE247 := n3_; clear n0_ n1_ n2_ n3_; clear hb hbox hg; have hcz10_0 := blkc BK247.out 0 (.int .i64 a0_0) rfl; have hcz10_1 := blkc BK247.out 1 (.slice A0_1 l0_1.length c0_1) rfl; have hcz10_2 := blkc BK247.out 2 (.slice A0_2 l0_2.length c0_2) rfl; have hfz10_0 := blk_frozen BK247.out 0; have hfz10_1 := blk_frozen BK247.out 1; have hfz10_2 := blk_frozen BK247.out 2) | ((with_reducible refine gate_dst (N := 13) rfl ?_); refine Kd.R_make Kd.bool _ 4 rfl (N := 13) rfl 92 _ _ rfl a0_0 rfl rfl Tryd.underlying92 (.bool false) 1 info4 rfl (by decide) (by omega) false (ok := fun _ => True) (okp := fun _ => True) rfl (fun _ hk => hk) trivial (of_decide_eq_true asz) (Nat.le_trans (Nat.mul_le_mul_right _ (of_decide_eq_true asz : a0_0.toNat ≤ 281474976710656)) (by omega)) (Below.refl _ _) (Nat.le_refl _) ?_; intro v249 w11 ho12 hb hg_ hnew_; clear hg_ hnew_; (first | rw [← Ny248.out] at ho12 | (simp only [Int.reduceToNat] at ho12; rw [← Ny248.out] at ho12)); have n0_ := Aside0.mk (Kd.R_lower ho12 (below_size bel)); have n1_ := Aside0.mk (blk_below (g := gb247) blkz hb); have n2_ := Aside0.mk (below_step bel hb); clear BK247; clear HB; have HO250 := n0_; have BK247 := n1_; have HB := n2_; clear n0_ n1_ n2_; clear hb ho12; have p8 : 0 ≤ (a2 : Int) := of_decide_eq_true asz; have q8 : (a2 : Int) < ((y248.length : Int) : Int) := of_decide_eq_true asz; obtain ⟨go8, co8, eo8, gb8, gl8, cl8, HG8⟩ := Kd.R_form HO250.out (by omega); (first | cases eo8 | (injection eo8 with ea_ en_ ec_; (first | subst ea_ | (injection ea_ with ea_; subst ea_)); subst ec_; clear en_)); have GB8 := Aside0.mk gb8; have GG8 := Aside0.mk HG8; clear gb8 gl8 HG8; obtain ⟨hx8_0, hf8_0⟩ := Kd.R_celln false HO250.out (a2 : Int) p8 q8; replace p8 := eq_true p8; replace q8 := eq_true q8; obtain ⟨hy13_, hz13_⟩ := Kd.R_celln false HO250.out (a2 : Int) (of_decide_eq_true asz) (of_decide_eq_true asz); have HP13 := Kd.R_putg HO250.out (a2 : Int) true) | ((with_reducible refine gate_store (t := 4) (p := 16) rfl ?_); refine store_event (t := 4) (p := 16) (v := ?vo_w14) (w1 := (w11.setCell ⟨go8, (a2 : Int).toNat, none⟩ (.bool true))) ?hg ?ho ?hn ?hr ?_; (case ho => rfl); (case hg => rfl); (case hn => rfl); (case hr => first | (go_simp; done) | (go_simp; rfl)); intro w14 hw; have hg : w11.grownBy w14 (some go8) := (by rw [hw]; exact HP13.2); have hp_ : Kd.R Kd.bool 4 w14 w.heap.size (fun _ => True) (.slice (some ⟨go8, 0, none⟩) y248.length co8) y251 := (by rw [hw, Ny251.out]; exact HP13.1); clear HP13; have n0_ := Aside0.mk (blk_grown (g := gb247) (o := .cells #[.int .i64 a0_0, .slice A0_1 l0_1.length c0_1, .slice A0_2 l0_2.length c0_2] 25 (0, 0)) blkz hg (Kd.R_ne HO250.out BK247.out (by decide))); have n1_ := Aside0.mk (hp_); have n2_ := Aside0.mk ((by rw [hw]; exact below_set (HB.out) GB8.out : Below w.heap.size w w14)); clear BK247; clear HO250; clear HB; have BK247 := n0_; have HO250 := n1_; have HB := n2_; clear n0_ n1_ n2_; clear hg hw hp_))
     go_loopg [8] k (fun kq v8 w' => ∃ (x7_1 : List Bool) (x8_1 : Bool), v8 = .bool x8_1 ∧ Aside0 (dropperref05_from.l0 kq a1 x7_1 x8_1 a0_0 l0_1 l0_2 = some r) ∧ Aside0 (kq ≤ k) ∧ Aside0 (Kd.R Kd.bool 4 w' w.heap.size (fun _ => True) (.slice (some ⟨go8, 0, none⟩) y248.length co8) x7_1) ∧ Aside0 (w'.heap[gb247]? = some (.cells #[.int .i64 a0_0, (.slice A0_1 l0_1.length c0_1), (.slice A0_2 l0_2.length c0_2)] 25 (0, 0))) ∧ Aside0 (Below w.heap.size w w'))
     case atStart => exact ⟨(y251), (true), rsz, H', ⟨Nat.le_refl _⟩, ⟨by (with_reducible repeat (first | apply Kd.R_alloc | apply Kd.R_drewN | apply Kd.R_drew)); exact HO250.out⟩, ⟨by (with_reducible repeat (first | refine blk_drewN ?_ _ | refine blk_drew ?_ | refine blk_alloc ?_ _)); exact BK247.out⟩, ⟨by repeat (first | (with_reducible first | exact HB.out | apply below_alloc | apply pw_below_drewN | apply below_drew1 | refine below_set ?_ GE247.out) | exact HB.out)⟩⟩
     case round =>
      clear H'
      try clear p2
      try clear c4
      try clear c4b0
      try clear c4b1
      try clear c5
      try clear c5b0
      try clear c5b1
      try clear c6
      try clear c6b0
      try clear c7
      try clear c7b0
      try clear p8
      try clear q8
      try clear hx8
      try clear hf8
      try clear hcz10_0
      try clear hcz10_1
      try clear hcz10_2
      try clear hfz10_0
      try clear hfz10_1
      try clear hfz10_2
      try clear hx8_0
      try clear p8
      try clear q8
      obtain ⟨x7_1, x8_1, rfl, HA, HK1, HO_7, BK247, HB⟩ := hrel
      have hl7_1 := (Kd.R_reads' HO_7.out).1
      rw [hl7_1] at HO_7
      (try simp only [hl7_1])
      (try simp only [hl7_1] at BK247)
      cases gk with
      | zero => exact absurd HA.out (by simp [dropperref05_from.l0])
      | succ k1 =>
       have H := HA.out
       clear HA
       simp only [dropperref05_from.l0] at H
       by_cases c15 : x8_1 = true
       ·
        subst c15
        have H1 : (dropperref05_from.l1 k1 a1 x7_1 false 0 a0_0 l0_1 l0_2) = some r := by rw [if_pos rfl] at H; exact H
        clear H
        have H := H1
        clear H1
        have H' := Aside0.mk H
        clear H
        go_wp2
        go_loopg [8, 9] k1 (fun kq v8 v9 w' => ∃ (x7_2 : List Bool) (x8_2 : Bool) (x9_2 : Int), v8 = .bool x8_2 ∧ v9 = .int .i64 x9_2 ∧ Aside0 (dropperref05_from.l1 kq a1 x7_2 x8_2 x9_2 a0_0 l0_1 l0_2 = some r) ∧ Aside0 (kq ≤ k1) ∧ Aside0 (Kd.R Kd.bool 4 w' w.heap.size (fun _ => True) (.slice (some ⟨go8, 0, none⟩) x7_1.length co8) x7_2) ∧ Aside0 (w'.heap[gb247]? = some (.cells #[.int .i64 a0_0, (.slice A0_1 l0_1.length c0_1), (.slice A0_2 l0_2.length c0_2)] 25 (0, 0))) ∧ Aside0 (Below w.heap.size w w'))
        case atStart => exact ⟨(x7_1), (false), (0), rsz, rsz, H', ⟨Nat.le_refl _⟩, ⟨by (try simp only [hl7_1]); (with_reducible repeat (first | apply Kd.R_alloc | apply Kd.R_drewN | apply Kd.R_drew)); exact HO_7.out⟩, ⟨by (try simp only [hl7_1]); (with_reducible repeat (first | refine blk_drewN ?_ _ | refine blk_drew ?_ | refine blk_alloc ?_ _)); exact BK247.out⟩, ⟨by repeat (first | (with_reducible first | exact HB.out | apply below_alloc | apply pw_below_drewN | apply below_drew1 | refine below_set ?_ GE247.out) | exact HB.out)⟩⟩
        case round =>
         clear H'
         try clear c1
         try clear p2
         try clear c4
         try clear c4b0
         try clear c4b1
         try clear c5
         try clear c5b0
         try clear c5b1
         try clear c6
         try clear c6b0
         try clear c7
         try clear c7b0
         try clear p8
         try clear q8
         try clear hx8
         try clear hf8
         try clear c15
         try clear hcz10_0
         try clear hcz10_1
         try clear hcz10_2
         try clear hfz10_0
         try clear hfz10_1
         try clear hfz10_2
         try clear hx8_0
         try clear p2
         try clear p8
         try clear q8
         obtain ⟨x7_2, x8_2, x9_2, rfl, rfl, HA, HK2, HO_7, BK247, HB⟩ := hrel
         have hl7_2 := (Kd.R_reads' HO_7.out).1
         rw [hl7_2] at HO_7
         (try simp only [hl7_2])
         (try simp only [hl7_2] at BK247)
         cases gk with
         | zero => exact absurd HA.out (by simp [dropperref05_from.l1])
         | succ k2 =>
          have H := HA.out
          clear HA
          simp only [dropperref05_from.l1] at H
          by_cases c16 : x9_2 < (l0_1.length : Int)
          ·
           rw [if_pos c16] at H
           have c16b0 : decide (x9_2 < (l0_1.length : Int)) = true := decide_eq_true c16
           try (have c16b0hl7_1 := c16b0; simp only [hl7_1] at c16b0hl7_1)
           try (have c16b0hl7_2 := c16b0; simp only [hl7_2] at c16b0hl7_2)
           clear c16
           by_cases c17 : 0 ≤ x9_2
           ·
            rw [if_pos c17] at H
            have c17b0 : decide (0 ≤ x9_2) = true := decide_eq_true c17
            clear c17
            replace H := Option.bind_eq_some_iff.mp H
            obtain ⟨t254, A180, H⟩ := H
            replace H : (if t254 = true then (if 0 ≤ ((rd_T69 l0_1 x9_2).f0) then (if ((rd_T69 l0_1 x9_2).f0) < (x7_2.length : Int) then (if 0 ≤ ((rd_T69 l0_1 x9_2).f1) then (if ((rd_T69 l0_1 x9_2).f1) < (x7_2.length : Int) then (if ((rdOf false x7_2 ((rd_T69 l0_1 x9_2).f0)) != (rdOf false x7_2 ((rd_T69 l0_1 x9_2).f1))) = true then (dropperref05_from.l1 k2 a1 ((x7_2.set (((rd_T69 l0_1 x9_2).f0) : Int).toNat true).set (((rd_T69 l0_1 x9_2).f1) : Int).toNat true) true (wrap64 (x9_2 + 1)) a0_0 l0_1 l0_2) else (dropperref05_from.l1 k2 a1 x7_2 x8_2 (wrap64 (x9_2 + 1)) a0_0 l0_1 l0_2)) else (none)) else (none)) else (none)) else (none)) else (dropperref05_from.l1 k2 a1 x7_2 x8_2 (wrap64 (x9_2 + 1)) a0_0 l0_1 l0_2)) = some r := H
            have A18 := Aside0.mk A180
            clear A180
            by_cases c19 : t254 = true
            ·
             subst c19
             have H1 : (if 0 ≤ ((rd_T69 l0_1 x9_2).f0) then (if ((rd_T69 l0_1 x9_2).f0) < (x7_2.length : Int) then (if 0 ≤ ((rd_T69 l0_1 x9_2).f1) then (if ((rd_T69 l0_1 x9_2).f1) < (x7_2.length : Int) then (if ((rdOf false x7_2 ((rd_T69 l0_1 x9_2).f0)) != (rdOf false x7_2 ((rd_T69 l0_1 x9_2).f1))) = true then (dropperref05_from.l1 k2 a1 ((x7_2.set (((rd_T69 l0_1 x9_2).f0) : Int).toNat true).set (((rd_T69 l0_1 x9_2).f1) : Int).toNat true) true (wrap64 (x9_2 + 1)) a0_0 l0_1 l0_2) else (dropperref05_from.l1 k2 a1 x7_2 x8_2 (wrap64 (x9_2 + 1)) a0_0 l0_1 l0_2)) else (none)) else (none)) else (none)) else (none)) = some r := by rw [if_pos rfl] at H; exact H
             clear H
             have H := H1
             clear H1
             by_cases c20 : 0 ≤ ((rd_T69 l0_1 x9_2).f0)
             ·
              rw [if_pos c20] at H
              have c20b0 : decide (0 ≤ ((rd_T69 l0_1 x9_2).f0)) = true := decide_eq_true c20
              clear c20
              by_cases c21 : ((rd_T69 l0_1 x9_2).f0) < (x7_2.length : Int)
              ·
               rw [if_pos c21] at H
               have c21b0 : decide (((rd_T69 l0_1 x9_2).f0) < (x7_2.length : Int)) = true := decide_eq_true c21
               try (have c21b0hl7_1 := c21b0; simp only [hl7_1] at c21b0hl7_1)
               try (have c21b0hl7_2 := c21b0; simp only [hl7_2] at c21b0hl7_2)
               clear c21
               by_cases c22 : 0 ≤ ((rd_T69 l0_1 x9_2).f1)
               ·
                rw [if_pos c22] at H
                have c22b0 : decide (0 ≤ ((rd_T69 l0_1 x9_2).f1)) = true := decide_eq_true c22
                clear c22
                by_cases c23 : ((rd_T69 l0_1 x9_2).f1) < (x7_2.length : Int)
                ·
                 rw [if_pos c23] at H
                 have c23b0 : decide (((rd_T69 l0_1 x9_2).f1) < (x7_2.length : Int)) = true := decide_eq_true c23
                 try (have c23b0hl7_1 := c23b0; simp only [hl7_1] at c23b0hl7_1)
                 try (have c23b0hl7_2 := c23b0; simp only [hl7_2] at c23b0hl7_2)
                 clear c23
                 by_cases c24 : ((rdOf false x7_2 ((rd_T69 l0_1 x9_2).f0)) != (rdOf false x7_2 ((rd_T69 l0_1 x9_2).f1))) = true
                 ·
                  rw [if_pos c24] at H
                  have c24b0 : ((rdOf false x7_2 ((rd_T69 l0_1 x9_2).f0)) != (rdOf false x7_2 ((rd_T69 l0_1 x9_2).f1))) = true := c24
                  (try (have c24b1 : decide ((rdOf false x7_2 ((rd_T69 l0_1 x9_2).f0)) = (rdOf false x7_2 ((rd_T69 l0_1 x9_2).f1))) = false := by simpa using c24))
                  (try (have c24b2 : ((rdOf false x7_2 ((rd_T69 l0_1 x9_2).f0)) == (rdOf false x7_2 ((rd_T69 l0_1 x9_2).f1))) = false := by simpa using c24))
                  (try (have c24b3 : ¬ ((rdOf false x7_2 ((rd_T69 l0_1 x9_2).f0)) = (rdOf false x7_2 ((rd_T69 l0_1 x9_2).f1))) := by simpa using c24))
                  clear c24
                  obtain ⟨y257, hy257⟩ : ∃ y_ : List Bool, y_ = (x7_2.set (((rd_T69 l0_1 x9_2).f0) : Int).toNat true) := ⟨_, rfl⟩
                  replace H : (dropperref05_from.l1 k2 a1 (y257.set (((rd_T69 l0_1 x9_2).f1) : Int).toNat true) true (wrap64 (x9_2 + 1)) a0_0 l0_1 l0_2) = some r := by first | (rw [hy257]; with_reducible exact H) | (have H2_ := (Option.bind_some _ _).symm.trans H; rw [hy257]; with_reducible exact H2_) | (have H2_ := (Option.bind_some _ _).symm.trans H; with_reducible exact H2_) | with_reducible exact H | (rw [hy257]; exact H) | exact H
                  have Ny257 := Aside0.mk hy257
                  clear hy257
                  obtain ⟨y258, hy258⟩ : ∃ y_ : List Bool, y_ = (y257.set (((rd_T69 l0_1 x9_2).f1) : Int).toNat true) := ⟨_, rfl⟩
                  replace H : (dropperref05_from.l1 k2 a1 y258 true (wrap64 (x9_2 + 1)) a0_0 l0_1 l0_2) = some r := by first | (rw [hy258]; with_reducible exact H) | (have H2_ := (Option.bind_some _ _).symm.trans H; rw [hy258]; with_reducible exact H2_) | (have H2_ := (Option.bind_some _ _).symm.trans H; with_reducible exact H2_) | with_reducible exact H | (rw [hy258]; exact H) | exact H
                  have Ny258 := Aside0.mk hy258
                  clear hy258
                  have H' := Aside0.mk H
                  clear H
                  have hcz27_0 := blkc BK247.out 0 (.int .i64 a0_0) rfl
                  have hcz27_1 := blkc BK247.out 1 (.slice A0_1 l0_1.length c0_1) rfl
                  have hcz27_2 := blkc BK247.out 2 (.slice A0_2 l0_2.length c0_2) rfl
                  have hfz27_0 := blk_frozen BK247.out 0
                  have hfz27_1 := blk_frozen BK247.out 1
                  have hfz27_2 := blk_frozen BK247.out 2
                  have p252 : 0 ≤ (x9_2 : Int) := of_decide_eq_true asz
                  have q252 : x9_2 < (l0_1.length : Int) := of_decide_eq_true asz
                  obtain ⟨ad252, e252, hx252_0, hx252_1⟩ := at_T69 HR0_1.out x9_2 p252 q252
                  cases e252
                  replace hx252_0 := (HB.out.cell (World.block_lt_of_cell? w _ hx252_0)).trans hx252_0
                  replace hx252_1 := (HB.out.cell (World.block_lt_of_cell? w _ hx252_1)).trans hx252_1
                  replace p252 := eq_true p252
                  replace q252 := eq_true q252
                  try go_wp2_with (first | ((with_reducible refine gate_dst (N := 10) rfl ?_); refine box_event ?hg (N := 10) ?hd (cs := #[.int .i64 0, .int .i64 0]) (t := 69) ?hr ?_; (case hd => rfl); (case hg => rfl); (case hr => first | (go_simp; done) | (go_simp; rfl)); intro gb253 hg w28 hbox hb; have n0_ := Aside0.mk (Kd.R_below (by (with_reducible repeat (first | apply Kd.R_alloc | apply Kd.R_drewN | apply Kd.R_drew)); exact HO_7.out) hb); have n1_ := Aside0.mk (blk_below (g := gb247) blkz hb); have n2_ := Aside0.mk (below_step bel hb); have n3_ := Aside0.mk (hbox); have n4_ := Aside0.mk ((by rw [hg]; exact (below_size bel) : w.heap.size ≤ gb253)); have n5_ := n4_; have n6_ := Aside0.mk ((by rw [hg]; exact Nat.ne_of_lt (blk_lt (g := gb247) (o := .cells #[.int .i64 a0_0, .slice (some ad252) l0_1.length c0_1, .slice A0_2 l0_2.length c0_2] 25 (0, 0)) blkz) : gb247 ≠ gb253)); have n7_ := Aside0.mk ((by rw [hg]; exact Nat.ne_of_gt (blk_lt (g := gb247) (o := .cells #[.int .i64 a0_0, .slice (some ad252) l0_1.length c0_1, .slice A0_2 l0_2.length c0_2] 25 (0, 0)) blkz) : gb253 ≠ gb247)); clear HO_7; clear BK247; clear HB; have HO_7 := n0_; have BK247 := n1_; have HB := n2_; have BK253 := n3_; have GW253 := n4_; have GE253 := n5_; have NB247_253 := n6_; have NB253_247 := n7_; clear n0_ n1_ n2_ n3_ n4_ n5_ n6_ n7_; clear hb hbox hg; have hnb29 := NB253_247.out; have hnc29 := NB247_253.out; have hcz30_0 := blkc BK253.out 0 (.int .i64 0) rfl; have hcz30_1 := blkc BK253.out 1 (.int .i64 0) rfl; have hfz30_0 := blk_frozen BK253.out 0; have hfz30_1 := blk_frozen BK253.out 1))
                  have n0_ : Aside0 (Kd.R Kd.bool 4 ((w28.setCell ⟨gb253, 0, none⟩ (.int .i64 ((rd_T69 l0_1 x9_2).f0))).setCell ⟨gb253, 1, none⟩ (.int .i64 ((rd_T69 l0_1 x9_2).f1))) w.heap.size (fun _ => True) (.slice (some ⟨go8, 0, none⟩) x7_2.length co8) x7_2) := ⟨by (with_reducible repeat (first | apply Kd.R_alloc | apply Kd.R_drewN | apply Kd.R_drew)); exact Kd.R_mono (Kd.R_far (p := ⟨gb253, 1, none⟩) (Kd.R_far (p := ⟨gb253, 0, none⟩) (Kd.R_types HO_7.out BK253.out (by decide)) (fun _ hk => hk.2) (.int .i64 ((rd_T69 l0_1 x9_2).f0))) (fun _ hk => hk.2) (.int .i64 ((rd_T69 l0_1 x9_2).f1))) (fun _ hk => trivial)⟩
                  have n1_ : Aside0 (((w28.setCell ⟨gb253, 0, none⟩ (.int .i64 ((rd_T69 l0_1 x9_2).f0))).setCell ⟨gb253, 1, none⟩ (.int .i64 ((rd_T69 l0_1 x9_2).f1))).heap[gb247]? = some (.cells #[.int .i64 a0_0, .slice (some ad252) l0_1.length c0_1, .slice A0_2 l0_2.length c0_2] 25 (0, 0))) := ⟨by (with_reducible repeat (first | refine blk_drewN ?_ _ | refine blk_drew ?_ | refine blk_alloc ?_ _)); refine blk_far ?_ NB247_253.out _; (with_reducible repeat (first | refine blk_drewN ?_ _ | refine blk_drew ?_ | refine blk_alloc ?_ _)); refine blk_far ?_ NB247_253.out _; (with_reducible repeat (first | refine blk_drewN ?_ _ | refine blk_drew ?_ | refine blk_alloc ?_ _)); exact BK247.out⟩
                  have n2_ : Aside0 (((w28.setCell ⟨gb253, 0, none⟩ (.int .i64 ((rd_T69 l0_1 x9_2).f0))).setCell ⟨gb253, 1, none⟩ (.int .i64 ((rd_T69 l0_1 x9_2).f1))).heap[gb253]? = some (.cells #[.int .i64 ((rd_T69 l0_1 x9_2).f0), .int .i64 ((rd_T69 l0_1 x9_2).f1)] 69 (0, 0))) := ⟨by (with_reducible repeat (first | refine blk_drewN ?_ _ | refine blk_drew ?_ | refine blk_alloc ?_ _)); refine blk_put (cs := #[.int .i64 ((rd_T69 l0_1 x9_2).f0), .int .i64 0]) ?_ 1 _ rfl; (with_reducible repeat (first | refine blk_drewN ?_ _ | refine blk_drew ?_ | refine blk_alloc ?_ _)); refine blk_put (cs := #[.int .i64 0, .int .i64 0]) ?_ 0 _ rfl; (with_reducible repeat (first | refine blk_drewN ?_ _ | refine blk_drew ?_ | refine blk_alloc ?_ _)); exact BK253.out⟩
                  have n3_ : Aside0 (Below w.heap.size w ((w28.setCell ⟨gb253, 0, none⟩ (.int .i64 ((rd_T69 l0_1 x9_2).f0))).setCell ⟨gb253, 1, none⟩ (.int .i64 ((rd_T69 l0_1 x9_2).f1)))) := ⟨by repeat (first | (with_reducible first | exact HB.out | apply below_alloc | apply pw_below_drewN | apply below_drew1 | refine below_set ?_ GE247.out | refine below_set ?_ GE253.out) | exact HB.out)⟩
                  (try clear HO_7)
                  (try clear BK247)
                  (try clear BK253)
                  (try clear HB)
                  generalize ((w28.setCell ⟨gb253, 0, none⟩ (.int .i64 ((rd_T69 l0_1 x9_2).f0))).setCell ⟨gb253, 1, none⟩ (.int .i64 ((rd_T69 l0_1 x9_2).f1))) = w31 at n0_ n1_ n2_ n3_ ⊢
                  have HO_7 := n0_
                  have BK247 := n1_
                  have BK253 := n2_
                  have HB := n3_
                  clear n0_ n1_ n2_ n3_
                  have n0_ := Aside0.mk (Kd.R_drew HO_7.out)
                  have n1_ := Aside0.mk (blk_drew BK247.out)
                  have n2_ := Aside0.mk (blk_drew BK253.out)
                  have n3_ := Aside0.mk (below_drew1 HB.out)
                  clear HO_7
                  clear BK247
                  clear BK253
                  clear HB
                  have HO_7 := n0_
                  have BK247 := n1_
                  have BK253 := n2_
                  have HB := n3_
                  clear n0_ n1_ n2_ n3_
                  have p255 : 0 ≤ (((rd_T69 l0_1 x9_2).f0) : Int) := of_decide_eq_true asz
                  have q255 : ((rd_T69 l0_1 x9_2).f0) < (x7_2.length : Int) := of_decide_eq_true asz
                  obtain ⟨ad255, e255, hx255_0⟩ := Kd.at_bool (Kd.R_reads' HO_7.out).2.2 ((rd_T69 l0_1 x9_2).f0) p255 q255
                  obtain rfl : (⟨go8, 0, none⟩ : Addr) = ad255 := (by injection e255)
                  (first | simp only [add_plain] at hx255_0 | simp only [add_at] at hx255_0 | simp only [Addr.add, Nat.zero_add] at hx255_0 | skip)
                  replace p255 := eq_true p255
                  replace q255 := eq_true q255
                  have p256 : 0 ≤ (((rd_T69 l0_1 x9_2).f1) : Int) := of_decide_eq_true asz
                  have q256 : ((rd_T69 l0_1 x9_2).f1) < (x7_2.length : Int) := of_decide_eq_true asz
                  obtain ⟨ad256, e256, hx256_0⟩ := Kd.at_bool (Kd.R_reads' HO_7.out).2.2 ((rd_T69 l0_1 x9_2).f1) p256 q256
                  obtain rfl : (⟨go8, 0, none⟩ : Addr) = ad256 := (by injection e256)
                  (first | simp only [add_plain] at hx256_0 | simp only [add_at] at hx256_0 | simp only [Addr.add, Nat.zero_add] at hx256_0 | skip)
                  replace p256 := eq_true p256
                  replace q256 := eq_true q256
                  refine start_ (n := 16) (S := fun w' => w'.cell? ⟨gb253, 0, none⟩ = some (.int .i64 ((rd_T69 l0_1 x9_2).f0)) ∧ w'.cell? ⟨gb253, 1, none⟩ = some (.int .i64 ((rd_T69 l0_1 x9_2).f1)) ∧ w'.cell? ⟨go8, (((rd_T69 l0_1 x9_2).f0)).toNat, none⟩ = some (.bool (rdOf false x7_2 ((rd_T69 l0_1 x9_2).f0))) ∧ w'.cell? ⟨go8, (((rd_T69 l0_1 x9_2).f1)).toNat, none⟩ = some (.bool (rdOf false x7_2 ((rd_T69 l0_1 x9_2).f1)))) (ds := []) #[false, false, false, false, false, false, false, false, false, false, false, false, false, false, false, false] (by kernel_rfl) rfl rfl ⟨(blk_cell BK253.out 0).trans rfl, (blk_cell BK253.out 1).trans rfl, hx255_0, hx256_0⟩ (fun hHeld => ?_); refine with_tabW dropperref05_from.tab10 dropperref05_from.bits10 (fun HT_ HW_ => ?_)
                  generalize w31.drew = w32 at HO_7 BK247 BK253 HB hx255_0 hx256_0 hHeld ⊢
                  refine pst (i := 0) (N := some 30) (bz 16 1) (any_of HT_.out (by kernel_rfl)) ?_
                  refine pst (i := 1) (N := some 31) (bz 16 3) (any_of HT_.out (by kernel_rfl)) ?_
                  refine one_ (i := 2) (N := some 32) #[true, true, true, false, false, false, false, false, false, false, false, false, false, false, false, false] rfl rfl (one_of HT_.out (by kernel_rfl)) (by decide) (fun K hK => ?_)
                  refine goes_ Tryd.func61 (by kernel_rfl) rfl #[.int .i64 a1, .int .i64 x9_2] (by rfl) rfl rfl mapz ?_
                  with_reducible refine (dropperref05_closed.calls a1 x9_2 true _ A18.out).mono ?_
                  rintro e w' ⟨rfl, ⟨nd, rfl⟩⟩
                  refine ⟨_, rfl, ?_⟩
                  refine hK.out _ _ ⟨(blk_cell BK253.out 0).trans rfl, (blk_cell BK253.out 1).trans rfl, hHeld.2.2.1, hHeld.2.2.2⟩ (fun hHeld => ?_)
                  clear hK K
                  refine norm_ (a' := ?_) ?_ ?_
                  rotate_left
                  ·
                   show Act.put _ (some 32) _ = _
                   simp only [Act.put, List.setIfInBounds_toArray, List.set_cons_zero, List.set_cons_succ, i64_w, i32_w]
                   rfl
                  refine pst (i := 3) (N := some 33) (bz 16 15) (any_of HT_.out (by kernel_rfl)) ?_
                  refine pst (i := 4) (N := some 34) (bz 16 31) (any_of HT_.out (by kernel_rfl)) ?_
                  refine pst (i := 5) (N := some 35) (bz 16 63) (any_of HT_.out (by kernel_rfl)) ?_
                  refine pst (i := 9) (N := some 39) (bz 16 575) (any_of HT_.out (by kernel_rfl)) ?_
                  refine pst (i := 10) (N := some 40) (bz 16 1599) (any_of HT_.out (by kernel_rfl)) ?_
                  refine tst4 (i := 6) (N := some 36) (bz 16 1663) (take_ofW HT_.out HW_.out (by kernel_rfl)) hHeld ?_
                  refine pst (i := 7) (N := some 37) (bz 16 1791) (any_of HT_.out (by kernel_rfl)) ?_
                  refine tst4 (i := 8) (N := some 38) (bz 16 2047) (take_ofW HT_.out HW_.out (by kernel_rfl)) hHeld ?_
                  refine tst4 (i := 11) (N := some 41) (bz 16 4095) (take_ofW HT_.out HW_.out (by kernel_rfl)) hHeld ?_
                  refine pst (i := 12) (N := some 42) (bz 16 8191) (any_of HT_.out (by kernel_rfl)) ?_
                  refine tst4 (i := 13) (N := some 43) (bz 16 16383) (take_ofW HT_.out HW_.out (by kernel_rfl)) hHeld ?_
                  refine pst (i := 14) (N := some 44) (bz 16 32767) (any_of HT_.out (by kernel_rfl)) ?_
                  refine pst (i := 15) (N := some 45) (bz 16 65535) (any_of HT_.out (by kernel_rfl)) ?_
                  refine done_ (done_of HT_.out (by kernel_rfl)) ?_
                  try go_wp2
                  (try (rw [drewN_self w32]; generalize hq_ : World.drewN w32 _ = w32; have n0_ : Aside0 (Kd.R Kd.bool 4 w32 w.heap.size (fun _ => True) (.slice (some ⟨go8, 0, none⟩) x7_2.length co8) x7_2) := ⟨by rw [← hq_]; exact (by (with_reducible repeat (first | apply Kd.R_alloc | apply Kd.R_drewN | apply Kd.R_drew)); exact HO_7.out)⟩; have n1_ : Aside0 (w32.heap[gb247]? = some (.cells #[.int .i64 a0_0, .slice (some ad252) l0_1.length c0_1, .slice A0_2 l0_2.length c0_2] 25 (0, 0))) := ⟨by rw [← hq_]; exact blkz⟩; have n2_ : Aside0 (w32.heap[gb253]? = some (.cells #[.int .i64 ((rd_T69 l0_1 x9_2).f0), .int .i64 ((rd_T69 l0_1 x9_2).f1)] 69 (0, 0))) := ⟨by rw [← hq_]; exact blkz⟩; have n3_ : Aside0 (Below w.heap.size w w32) := ⟨by rw [← hq_]; exact bel⟩; clear HO_7 BK247 BK253 HB hq_; have HO_7 := n0_; have BK247 := n1_; have BK253 := n2_; have HB := n3_; clear n0_ n1_ n2_ n3_))
                  have n0_ := Aside0.mk (Kd.R_drew HO_7.out)
                  have n1_ := Aside0.mk (blk_drew BK247.out)
                  have n2_ := Aside0.mk (blk_drew BK253.out)
                  have n3_ := Aside0.mk (below_drew1 HB.out)
                  clear HO_7
                  clear BK247
                  clear BK253
                  clear HB
                  have HO_7 := n0_
                  have BK247 := n1_
                  have BK253 := n2_
                  have HB := n3_
                  clear n0_ n1_ n2_ n3_
                  have p25 : 0 ≤ (((rd_T69 l0_1 x9_2).f0) : Int) := of_decide_eq_true asz
                  have q25 : (((rd_T69 l0_1 x9_2).f0) : Int) < ((x7_2.length : Int) : Int) := of_decide_eq_true asz
                  obtain ⟨hx25_0, hf25_0⟩ := Kd.R_celln false HO_7.out (((rd_T69 l0_1 x9_2).f0) : Int) p25 q25
                  replace p25 := eq_true p25
                  replace q25 := eq_true q25
                  have HP34 := Kd.R_putn HO_7.out (((rd_T69 l0_1 x9_2).f0) : Int) true
                  rw [← Ny257.out] at HP34
                  have HQ34 := Aside0.mk HP34
                  clear HP34
                  have p26 : 0 ≤ (((rd_T69 l0_1 x9_2).f1) : Int) := of_decide_eq_true asz
                  have q26 : (((rd_T69 l0_1 x9_2).f1) : Int) < ((x7_2.length : Int) : Int) := of_decide_eq_true asz
                  obtain ⟨hx26_0, hf26_0⟩ := Kd.R_celln false HQ34.out (((rd_T69 l0_1 x9_2).f1) : Int) p26 q26
                  replace p26 := eq_true p26
                  replace q26 := eq_true q26
                  have HP35 := Kd.R_putn HQ34.out (((rd_T69 l0_1 x9_2).f1) : Int) true
                  rw [← Ny258.out] at HP35
                  have HQ35 := Aside0.mk HP35
                  clear HP35
                  refine start_ (n := 11) (S := fun w' => w'.cell? ⟨gb253, 0, none⟩ = some (.int .i64 ((rd_T69 l0_1 x9_2).f0)) ∧ w'.cell? ⟨gb253, 1, none⟩ = some (.int .i64 ((rd_T69 l0_1 x9_2).f1))) (ds := []) #[false, false, false, false, false, false, false, false, false, false, false] (by kernel_rfl) rfl rfl ⟨(blk_cell BK253.out 0).trans rfl, (blk_cell BK253.out 1).trans rfl⟩ (fun hHeld => ?_); refine with_tabW dropperref05_from.tab11 dropperref05_from.bits11 (fun HT_ HW_ => ?_)
                  generalize w32.drew = w33 at HO_7 BK247 BK253 HB HQ34 HQ35 hf25_0 hf26_0 hx25_0 hx26_0 hHeld ⊢
                  refine pst (i := 0) (N := some 46) (bz 11 1) (any_of HT_.out (by kernel_rfl)) ?_
                  refine pst (i := 1) (N := some 47) (bz 11 3) (any_of HT_.out (by kernel_rfl)) ?_
                  refine pst (i := 3) (N := some 49) (bz 11 11) (any_of HT_.out (by kernel_rfl)) ?_
                  refine pst (i := 4) (N := some 50) (bz 11 27) (any_of HT_.out (by kernel_rfl)) ?_
                  refine tst2 (i := 2) (N := some 48) (bz 11 31) (take_ofW HT_.out HW_.out (by kernel_rfl)) hHeld ?_
                  refine pst (i := 6) (N := some 52) (bz 11 95) (any_of HT_.out (by kernel_rfl)) ?_
                  refine tst2 (i := 5) (N := some 51) (bz 11 127) (take_ofW HT_.out HW_.out (by kernel_rfl)) hHeld ?_
                  refine one_ (i := 7) (N := none) #[true, true, true, true, true, true, true, true, false, false, false] rfl rfl (one_of HT_.out (by kernel_rfl)) (by decide) (fun K hK => ?_)
                  refine skip_ (w1 := ?_) (by rfl) rfl ?_ ?_
                  rotate_left
                  ·
                   go_simp
                   rfl
                  refine hK.out _ _ ⟨((cell_far (p := ⟨go8, _, none⟩) (fun e_ => (Kd.R_ne HO_7.out BK253.out (by decide)) (by have h_ : gb253 = go8 := e_; rw [h_]; rfl)) _).trans (hHeld.1)), ((cell_far (p := ⟨go8, _, none⟩) (fun e_ => (Kd.R_ne HO_7.out BK253.out (by decide)) (by have h_ : gb253 = go8 := e_; rw [h_]; rfl)) _).trans (hHeld.2))⟩ (fun hHeld => ?_)
                  clear hK K
                  refine pst (i := 8) (N := some 53) (bz 11 511) (any_of HT_.out (by kernel_rfl)) ?_
                  refine one_ (i := 9) (N := none) #[true, true, true, true, true, true, true, true, true, true, false] rfl rfl (one_of HT_.out (by kernel_rfl)) (by decide) (fun K hK => ?_)
                  refine skip_ (w1 := ?_) (by rfl) rfl ?_ ?_
                  rotate_left
                  ·
                   go_simp
                   rfl
                  refine hK.out _ _ ⟨((cell_far (p := ⟨go8, _, none⟩) (fun e_ => (Kd.R_ne HO_7.out BK253.out (by decide)) (by have h_ : gb253 = go8 := e_; rw [h_]; rfl)) _).trans (hHeld.1)), ((cell_far (p := ⟨go8, _, none⟩) (fun e_ => (Kd.R_ne HO_7.out BK253.out (by decide)) (by have h_ : gb253 = go8 := e_; rw [h_]; rfl)) _).trans (hHeld.2))⟩ (fun hHeld => ?_)
                  clear hK K
                  refine pst (i := 10) (N := some 8) (bz 11 2047) (any_of HT_.out (by kernel_rfl)) ?_
                  refine done_ (done_of HT_.out (by kernel_rfl)) ?_
                  try go_wp2
                  (try simp only [← hl7_2])
                  go_roundg k2
                  case measure => have := HK1.out; have := HK2.out; omega
                  case rel => exact ⟨(y258), (true), (wrap64 (x9_2 + 1)), rsz, rsz, H', ⟨by have := HK1.out; have := HK2.out; omega⟩, ⟨by (try simp only [hl7_1]); (try simp only [hl7_2]); (with_reducible repeat (first | apply Kd.R_alloc | apply Kd.R_drewN | apply Kd.R_drew)); exact HQ35.out⟩, ⟨by (try simp only [hl7_1]); (try simp only [hl7_2]); (with_reducible repeat (first | refine blk_drewN ?_ _ | refine blk_drew ?_ | refine blk_alloc ?_ _)); refine blk_far ?_ (by have h_ := Kd.R_ne HO_7.out BK247.out (by decide); intro e_; exact h_ (by rw [e_]; rfl)) _; (with_reducible repeat (first | refine blk_drewN ?_ _ | refine blk_drew ?_ | refine blk_alloc ?_ _)); refine blk_far ?_ (by have h_ := Kd.R_ne HO_7.out BK247.out (by decide); intro e_; exact h_ (by rw [e_]; rfl)) _; (with_reducible repeat (first | refine blk_drewN ?_ _ | refine blk_drew ?_ | refine blk_alloc ?_ _)); exact BK247.out⟩, ⟨by repeat (first | (with_reducible first | exact HB.out | apply below_alloc | apply pw_below_drewN | apply below_drew1 | refine below_set ?_ GB8.out | refine below_set ?_ GB8.out | refine below_set ?_ GE247.out | refine below_set ?_ GE253.out) | exact HB.out)⟩⟩
                 ·
                  rw [if_neg c24] at H
                  have c24b0 : ((rdOf false x7_2 ((rd_T69 l0_1 x9_2).f0)) != (rdOf false x7_2 ((rd_T69 l0_1 x9_2).f1))) = false := by simpa using c24
                  (try (have c24b1 : decide ((rdOf false x7_2 ((rd_T69 l0_1 x9_2).f0)) = (rdOf false x7_2 ((rd_T69 l0_1 x9_2).f1))) = true := by simpa using c24))
                  (try (have c24b2 : ((rdOf false x7_2 ((rd_T69 l0_1 x9_2).f0)) == (rdOf false x7_2 ((rd_T69 l0_1 x9_2).f1))) = true := by simpa using c24))
                  clear c24
                  have H' := Aside0.mk H
                  clear H
                  have hcz36_0 := blkc BK247.out 0 (.int .i64 a0_0) rfl
                  have hcz36_1 := blkc BK247.out 1 (.slice A0_1 l0_1.length c0_1) rfl
                  have hcz36_2 := blkc BK247.out 2 (.slice A0_2 l0_2.length c0_2) rfl
                  have hfz36_0 := blk_frozen BK247.out 0
                  have hfz36_1 := blk_frozen BK247.out 1
                  have hfz36_2 := blk_frozen BK247.out 2
                  have p252 : 0 ≤ (x9_2 : Int) := of_decide_eq_true asz
                  have q252 : x9_2 < (l0_1.length : Int) := of_decide_eq_true asz
                  obtain ⟨ad252, e252, hx252_0, hx252_1⟩ := at_T69 HR0_1.out x9_2 p252 q252
                  cases e252
                  replace hx252_0 := (HB.out.cell (World.block_lt_of_cell? w _ hx252_0)).trans hx252_0
                  replace hx252_1 := (HB.out.cell (World.block_lt_of_cell? w _ hx252_1)).trans hx252_1
                  replace p252 := eq_true p252
                  replace q252 := eq_true q252
                  try go_wp2_with (first | ((with_reducible refine gate_dst (N := 10) rfl ?_); refine box_event ?hg (N := 10) ?hd (cs := #[.int .i64 0, .int .i64 0]) (t := 69) ?hr ?_; (case hd => rfl); (case hg => rfl); (case hr => first | (go_simp; done) | (go_simp; rfl)); intro gb253 hg w37 hbox hb; have n0_ := Aside0.mk (Kd.R_below (by (with_reducible repeat (first | apply Kd.R_alloc | apply Kd.R_drewN | apply Kd.R_drew)); exact HO_7.out) hb); have n1_ := Aside0.mk (blk_below (g := gb247) blkz hb); have n2_ := Aside0.mk (below_step bel hb); have n3_ := Aside0.mk (hbox); have n4_ := Aside0.mk ((by rw [hg]; exact (below_size bel) : w.heap.size ≤ gb253)); have n5_ := n4_; have n6_ := Aside0.mk ((by rw [hg]; exact Nat.ne_of_lt (blk_lt (g := gb247) (o := .cells #[.int .i64 a0_0, .slice (some ad252) l0_1.length c0_1, .slice A0_2 l0_2.length c0_2] 25 (0, 0)) blkz) : gb247 ≠ gb253)); have n7_ := Aside0.mk ((by rw [hg]; exact Nat.ne_of_gt (blk_lt (g := gb247) (o := .cells #[.int .i64 a0_0, .slice (some ad252) l0_1.length c0_1, .slice A0_2 l0_2.length c0_2] 25 (0, 0)) blkz) : gb253 ≠ gb247)); clear HO_7; clear BK247; clear HB; have HO_7 := n0_; have BK247 := n1_; have HB := n2_; have BK253 := n3_; have GW253 := n4_; have GE253 := n5_; have NB247_253 := n6_; have NB253_247 := n7_; clear n0_ n1_ n2_ n3_ n4_ n5_ n6_ n7_; clear hb hbox hg; have hnb38 := NB253_247.out; have hnc38 := NB247_253.out; have hcz39_0 := blkc BK253.out 0 (.int .i64 0) rfl; have hcz39_1 := blkc BK253.out 1 (.int .i64 0) rfl; have hfz39_0 := blk_frozen BK253.out 0; have hfz39_1 := blk_frozen BK253.out 1))
                  have n0_ : Aside0 (Kd.R Kd.bool 4 ((w37.setCell ⟨gb253, 0, none⟩ (.int .i64 ((rd_T69 l0_1 x9_2).f0))).setCell ⟨gb253, 1, none⟩ (.int .i64 ((rd_T69 l0_1 x9_2).f1))) w.heap.size (fun _ => True) (.slice (some ⟨go8, 0, none⟩) x7_2.length co8) x7_2) := ⟨by (with_reducible repeat (first | apply Kd.R_alloc | apply Kd.R_drewN | apply Kd.R_drew)); exact Kd.R_mono (Kd.R_far (p := ⟨gb253, 1, none⟩) (Kd.R_far (p := ⟨gb253, 0, none⟩) (Kd.R_types HO_7.out BK253.out (by decide)) (fun _ hk => hk.2) (.int .i64 ((rd_T69 l0_1 x9_2).f0))) (fun _ hk => hk.2) (.int .i64 ((rd_T69 l0_1 x9_2).f1))) (fun _ hk => trivial)⟩
                  have n1_ : Aside0 (((w37.setCell ⟨gb253, 0, none⟩ (.int .i64 ((rd_T69 l0_1 x9_2).f0))).setCell ⟨gb253, 1, none⟩ (.int .i64 ((rd_T69 l0_1 x9_2).f1))).heap[gb247]? = some (.cells #[.int .i64 a0_0, .slice (some ad252) l0_1.length c0_1, .slice A0_2 l0_2.length c0_2] 25 (0, 0))) := ⟨by (with_reducible repeat (first | refine blk_drewN ?_ _ | refine blk_drew ?_ | refine blk_alloc ?_ _)); refine blk_far ?_ NB247_253.out _; (with_reducible repeat (first | refine blk_drewN ?_ _ | refine blk_drew ?_ | refine blk_alloc ?_ _)); refine blk_far ?_ NB247_253.out _; (with_reducible repeat (first | refine blk_drewN ?_ _ | refine blk_drew ?_ | refine blk_alloc ?_ _)); exact BK247.out⟩
                  have n2_ : Aside0 (((w37.setCell ⟨gb253, 0, none⟩ (.int .i64 ((rd_T69 l0_1 x9_2).f0))).setCell ⟨gb253, 1, none⟩ (.int .i64 ((rd_T69 l0_1 x9_2).f1))).heap[gb253]? = some (.cells #[.int .i64 ((rd_T69 l0_1 x9_2).f0), .int .i64 ((rd_T69 l0_1 x9_2).f1)] 69 (0, 0))) := ⟨by (with_reducible repeat (first | refine blk_drewN ?_ _ | refine blk_drew ?_ | refine blk_alloc ?_ _)); refine blk_put (cs := #[.int .i64 ((rd_T69 l0_1 x9_2).f0), .int .i64 0]) ?_ 1 _ rfl; (with_reducible repeat (first | refine blk_drewN ?_ _ | refine blk_drew ?_ | refine blk_alloc ?_ _)); refine blk_put (cs := #[.int .i64 0, .int .i64 0]) ?_ 0 _ rfl; (with_reducible repeat (first | refine blk_drewN ?_ _ | refine blk_drew ?_ | refine blk_alloc ?_ _)); exact BK253.out⟩
                  have n3_ : Aside0 (Below w.heap.size w ((w37.setCell ⟨gb253, 0, none⟩ (.int .i64 ((rd_T69 l0_1 x9_2).f0))).setCell ⟨gb253, 1, none⟩ (.int .i64 ((rd_T69 l0_1 x9_2).f1)))) := ⟨by repeat (first | (with_reducible first | exact HB.out | apply below_alloc | apply pw_below_drewN | apply below_drew1 | refine below_set ?_ GE247.out | refine below_set ?_ GE253.out) | exact HB.out)⟩
                  (try clear HO_7)
                  (try clear BK247)
                  (try clear BK253)
                  (try clear HB)
                  generalize ((w37.setCell ⟨gb253, 0, none⟩ (.int .i64 ((rd_T69 l0_1 x9_2).f0))).setCell ⟨gb253, 1, none⟩ (.int .i64 ((rd_T69 l0_1 x9_2).f1))) = w40 at n0_ n1_ n2_ n3_ ⊢
                  have HO_7 := n0_
                  have BK247 := n1_
                  have BK253 := n2_
                  have HB := n3_
                  clear n0_ n1_ n2_ n3_
                  have n0_ := Aside0.mk (Kd.R_drew HO_7.out)
                  have n1_ := Aside0.mk (blk_drew BK247.out)
                  have n2_ := Aside0.mk (blk_drew BK253.out)
                  have n3_ := Aside0.mk (below_drew1 HB.out)
                  clear HO_7
                  clear BK247
                  clear BK253
                  clear HB
                  have HO_7 := n0_
                  have BK247 := n1_
                  have BK253 := n2_
                  have HB := n3_
                  clear n0_ n1_ n2_ n3_
                  have p255 : 0 ≤ (((rd_T69 l0_1 x9_2).f0) : Int) := of_decide_eq_true asz
                  have q255 : ((rd_T69 l0_1 x9_2).f0) < (x7_2.length : Int) := of_decide_eq_true asz
                  obtain ⟨ad255, e255, hx255_0⟩ := Kd.at_bool (Kd.R_reads' HO_7.out).2.2 ((rd_T69 l0_1 x9_2).f0) p255 q255
                  obtain rfl : (⟨go8, 0, none⟩ : Addr) = ad255 := (by injection e255)
                  (first | simp only [add_plain] at hx255_0 | simp only [add_at] at hx255_0 | simp only [Addr.add, Nat.zero_add] at hx255_0 | skip)
                  replace p255 := eq_true p255
                  replace q255 := eq_true q255
                  have p256 : 0 ≤ (((rd_T69 l0_1 x9_2).f1) : Int) := of_decide_eq_true asz
                  have q256 : ((rd_T69 l0_1 x9_2).f1) < (x7_2.length : Int) := of_decide_eq_true asz
                  obtain ⟨ad256, e256, hx256_0⟩ := Kd.at_bool (Kd.R_reads' HO_7.out).2.2 ((rd_T69 l0_1 x9_2).f1) p256 q256
                  obtain rfl : (⟨go8, 0, none⟩ : Addr) = ad256 := (by injection e256)
                  (first | simp only [add_plain] at hx256_0 | simp only [add_at] at hx256_0 | simp only [Addr.add, Nat.zero_add] at hx256_0 | skip)
                  replace p256 := eq_true p256
                  replace q256 := eq_true q256
                  refine start_ (n := 16) (S := fun w' => w'.cell? ⟨gb253, 0, none⟩ = some (.int .i64 ((rd_T69 l0_1 x9_2).f0)) ∧ w'.cell? ⟨gb253, 1, none⟩ = some (.int .i64 ((rd_T69 l0_1 x9_2).f1)) ∧ w'.cell? ⟨go8, (((rd_T69 l0_1 x9_2).f0)).toNat, none⟩ = some (.bool (rdOf false x7_2 ((rd_T69 l0_1 x9_2).f0))) ∧ w'.cell? ⟨go8, (((rd_T69 l0_1 x9_2).f1)).toNat, none⟩ = some (.bool (rdOf false x7_2 ((rd_T69 l0_1 x9_2).f1)))) (ds := []) #[false, false, false, false, false, false, false, false, false, false, false, false, false, false, false, false] (by kernel_rfl) rfl rfl ⟨(blk_cell BK253.out 0).trans rfl, (blk_cell BK253.out 1).trans rfl, hx255_0, hx256_0⟩ (fun hHeld => ?_); refine with_tabW dropperref05_from.tab10 dropperref05_from.bits10 (fun HT_ HW_ => ?_)
                  generalize w40.drew = w41 at HO_7 BK247 BK253 HB hx255_0 hx256_0 hHeld ⊢
                  refine pst (i := 0) (N := some 30) (bz 16 1) (any_of HT_.out (by kernel_rfl)) ?_
                  refine pst (i := 1) (N := some 31) (bz 16 3) (any_of HT_.out (by kernel_rfl)) ?_
                  refine one_ (i := 2) (N := some 32) #[true, true, true, false, false, false, false, false, false, false, false, false, false, false, false, false] rfl rfl (one_of HT_.out (by kernel_rfl)) (by decide) (fun K hK => ?_)
                  refine goes_ Tryd.func61 (by kernel_rfl) rfl #[.int .i64 a1, .int .i64 x9_2] (by rfl) rfl rfl mapz ?_
                  with_reducible refine (dropperref05_closed.calls a1 x9_2 true _ A18.out).mono ?_
                  rintro e w' ⟨rfl, ⟨nd, rfl⟩⟩
                  refine ⟨_, rfl, ?_⟩
                  refine hK.out _ _ ⟨(blk_cell BK253.out 0).trans rfl, (blk_cell BK253.out 1).trans rfl, hHeld.2.2.1, hHeld.2.2.2⟩ (fun hHeld => ?_)
                  clear hK K
                  refine norm_ (a' := ?_) ?_ ?_
                  rotate_left
                  ·
                   show Act.put _ (some 32) _ = _
                   simp only [Act.put, List.setIfInBounds_toArray, List.set_cons_zero, List.set_cons_succ, i64_w, i32_w]
                   rfl
                  refine pst (i := 3) (N := some 33) (bz 16 15) (any_of HT_.out (by kernel_rfl)) ?_
                  refine pst (i := 4) (N := some 34) (bz 16 31) (any_of HT_.out (by kernel_rfl)) ?_
                  refine pst (i := 5) (N := some 35) (bz 16 63) (any_of HT_.out (by kernel_rfl)) ?_
                  refine pst (i := 9) (N := some 39) (bz 16 575) (any_of HT_.out (by kernel_rfl)) ?_
                  refine pst (i := 10) (N := some 40) (bz 16 1599) (any_of HT_.out (by kernel_rfl)) ?_
                  refine tst4 (i := 6) (N := some 36) (bz 16 1663) (take_ofW HT_.out HW_.out (by kernel_rfl)) hHeld ?_
                  refine pst (i := 7) (N := some 37) (bz 16 1791) (any_of HT_.out (by kernel_rfl)) ?_
                  refine tst4 (i := 8) (N := some 38) (bz 16 2047) (take_ofW HT_.out HW_.out (by kernel_rfl)) hHeld ?_
                  refine tst4 (i := 11) (N := some 41) (bz 16 4095) (take_ofW HT_.out HW_.out (by kernel_rfl)) hHeld ?_
                  refine pst (i := 12) (N := some 42) (bz 16 8191) (any_of HT_.out (by kernel_rfl)) ?_
                  refine tst4 (i := 13) (N := some 43) (bz 16 16383) (take_ofW HT_.out HW_.out (by kernel_rfl)) hHeld ?_
                  refine pst (i := 14) (N := some 44) (bz 16 32767) (any_of HT_.out (by kernel_rfl)) ?_
                  refine pst (i := 15) (N := some 45) (bz 16 65535) (any_of HT_.out (by kernel_rfl)) ?_
                  refine done_ (done_of HT_.out (by kernel_rfl)) ?_
                  try go_wp2
                  (try simp only [← hl7_2])
                  go_roundg k2
                  case measure => have := HK1.out; have := HK2.out; omega
                  case rel => exact ⟨(x7_2), (x8_2), (wrap64 (x9_2 + 1)), rsz, rsz, H', ⟨by have := HK1.out; have := HK2.out; omega⟩, ⟨by (try simp only [hl7_1]); (try simp only [hl7_2]); (with_reducible repeat (first | apply Kd.R_alloc | apply Kd.R_drewN | apply Kd.R_drew)); exact HO_7.out⟩, ⟨by (try simp only [hl7_1]); (try simp only [hl7_2]); (with_reducible repeat (first | refine blk_drewN ?_ _ | refine blk_drew ?_ | refine blk_alloc ?_ _)); exact BK247.out⟩, ⟨by repeat (first | (with_reducible first | exact HB.out | apply below_alloc | apply pw_below_drewN | apply below_drew1 | refine below_set ?_ GE247.out | refine below_set ?_ GE253.out) | exact HB.out)⟩⟩
                ·
                 rw [if_neg c23] at H
                 exact absurd H (by simp)
               ·
                rw [if_neg c22] at H
                exact absurd H (by simp)
              ·
               rw [if_neg c21] at H
               exact absurd H (by simp)
             ·
              rw [if_neg c20] at H
              exact absurd H (by simp)
            ·
             replace c19 := Bool.eq_false_iff.mpr c19
             subst c19
             have H1 : (dropperref05_from.l1 k2 a1 x7_2 x8_2 (wrap64 (x9_2 + 1)) a0_0 l0_1 l0_2) = some r := by rw [if_neg (show ¬ (false = true) by decide)] at H; exact H
             clear H
             have H := H1
             clear H1
             have H' := Aside0.mk H
             clear H
             have hcz42_0 := blkc BK247.out 0 (.int .i64 a0_0) rfl
             have hcz42_1 := blkc BK247.out 1 (.slice A0_1 l0_1.length c0_1) rfl
             have hcz42_2 := blkc BK247.out 2 (.slice A0_2 l0_2.length c0_2) rfl
             have hfz42_0 := blk_frozen BK247.out 0
             have hfz42_1 := blk_frozen BK247.out 1
             have hfz42_2 := blk_frozen BK247.out 2
             have p252 : 0 ≤ (x9_2 : Int) := of_decide_eq_true asz
             have q252 : x9_2 < (l0_1.length : Int) := of_decide_eq_true asz
             obtain ⟨ad252, e252, hx252_0, hx252_1⟩ := at_T69 HR0_1.out x9_2 p252 q252
             cases e252
             replace hx252_0 := (HB.out.cell (World.block_lt_of_cell? w _ hx252_0)).trans hx252_0
             replace hx252_1 := (HB.out.cell (World.block_lt_of_cell? w _ hx252_1)).trans hx252_1
             replace p252 := eq_true p252
             replace q252 := eq_true q252
             try go_wp2_with (first | ((with_reducible refine gate_dst (N := 10) rfl ?_); refine box_event ?hg (N := 10) ?hd (cs := #[.int .i64 0, .int .i64 0]) (t := 69) ?hr ?_; (case hd => rfl); (case hg => rfl); (case hr => first | (go_simp; done) | (go_simp; rfl)); intro gb253 hg w43 hbox hb; have n0_ := Aside0.mk (Kd.R_below (by (with_reducible repeat (first | apply Kd.R_alloc | apply Kd.R_drewN | apply Kd.R_drew)); exact HO_7.out) hb); have n1_ := Aside0.mk (blk_below (g := gb247) blkz hb); have n2_ := Aside0.mk (below_step bel hb); have n3_ := Aside0.mk (hbox); have n4_ := Aside0.mk ((by rw [hg]; exact (below_size bel) : w.heap.size ≤ gb253)); have n5_ := n4_; have n6_ := Aside0.mk ((by rw [hg]; exact Nat.ne_of_lt (blk_lt (g := gb247) (o := .cells #[.int .i64 a0_0, .slice (some ad252) l0_1.length c0_1, .slice A0_2 l0_2.length c0_2] 25 (0, 0)) blkz) : gb247 ≠ gb253)); have n7_ := Aside0.mk ((by rw [hg]; exact Nat.ne_of_gt (blk_lt (g := gb247) (o := .cells #[.int .i64 a0_0, .slice (some ad252) l0_1.length c0_1, .slice A0_2 l0_2.length c0_2] 25 (0, 0)) blkz) : gb253 ≠ gb247)); clear HO_7; clear BK247; clear HB; have HO_7 := n0_; have BK247 := n1_; have HB := n2_; have BK253 := n3_; have GW253 := n4_; have GE253 := n5_; have NB247_253 := n6_; have NB253_247 := n7_; clear n0_ n1_ n2_ n3_ n4_ n5_ n6_ n7_; clear hb hbox hg; have hnb44 := NB253_247.out; have hnc44 := NB247_253.out; have hcz45_0 := blkc BK253.out 0 (.int .i64 0) rfl; have hcz45_1 := blkc BK253.out 1 (.int .i64 0) rfl; have hfz45_0 := blk_frozen BK253.out 0; have hfz45_1 := blk_frozen BK253.out 1))
             have n0_ : Aside0 (Kd.R Kd.bool 4 ((w43.setCell ⟨gb253, 0, none⟩ (.int .i64 ((rd_T69 l0_1 x9_2).f0))).setCell ⟨gb253, 1, none⟩ (.int .i64 ((rd_T69 l0_1 x9_2).f1))) w.heap.size (fun _ => True) (.slice (some ⟨go8, 0, none⟩) x7_2.length co8) x7_2) := ⟨by (with_reducible repeat (first | apply Kd.R_alloc | apply Kd.R_drewN | apply Kd.R_drew)); exact Kd.R_mono (Kd.R_far (p := ⟨gb253, 1, none⟩) (Kd.R_far (p := ⟨gb253, 0, none⟩) (Kd.R_types HO_7.out BK253.out (by decide)) (fun _ hk => hk.2) (.int .i64 ((rd_T69 l0_1 x9_2).f0))) (fun _ hk => hk.2) (.int .i64 ((rd_T69 l0_1 x9_2).f1))) (fun _ hk => trivial)⟩
             have n1_ : Aside0 (((w43.setCell ⟨gb253, 0, none⟩ (.int .i64 ((rd_T69 l0_1 x9_2).f0))).setCell ⟨gb253, 1, none⟩ (.int .i64 ((rd_T69 l0_1 x9_2).f1))).heap[gb247]? = some (.cells #[.int .i64 a0_0, .slice (some ad252) l0_1.length c0_1, .slice A0_2 l0_2.length c0_2] 25 (0, 0))) := ⟨by (with_reducible repeat (first | refine blk_drewN ?_ _ | refine blk_drew ?_ | refine blk_alloc ?_ _)); refine blk_far ?_ NB247_253.out _; (with_reducible repeat (first | refine blk_drewN ?_ _ | refine blk_drew ?_ | refine blk_alloc ?_ _)); refine blk_far ?_ NB247_253.out _; (with_reducible repeat (first | refine blk_drewN ?_ _ | refine blk_drew ?_ | refine blk_alloc ?_ _)); exact BK247.out⟩
             have n2_ : Aside0 (((w43.setCell ⟨gb253, 0, none⟩ (.int .i64 ((rd_T69 l0_1 x9_2).f0))).setCell ⟨gb253, 1, none⟩ (.int .i64 ((rd_T69 l0_1 x9_2).f1))).heap[gb253]? = some (.cells #[.int .i64 ((rd_T69 l0_1 x9_2).f0), .int .i64 ((rd_T69 l0_1 x9_2).f1)] 69 (0, 0))) := ⟨by (with_reducible repeat (first | refine blk_drewN ?_ _ | refine blk_drew ?_ | refine blk_alloc ?_ _)); refine blk_put (cs := #[.int .i64 ((rd_T69 l0_1 x9_2).f0), .int .i64 0]) ?_ 1 _ rfl; (with_reducible repeat (first | refine blk_drewN ?_ _ | refine blk_drew ?_ | refine blk_alloc ?_ _)); refine blk_put (cs := #[.int .i64 0, .int .i64 0]) ?_ 0 _ rfl; (with_reducible repeat (first | refine blk_drewN ?_ _ | refine blk_drew ?_ | refine blk_alloc ?_ _)); exact BK253.out⟩
             have n3_ : Aside0 (Below w.heap.size w ((w43.setCell ⟨gb253, 0, none⟩ (.int .i64 ((rd_T69 l0_1 x9_2).f0))).setCell ⟨gb253, 1, none⟩ (.int .i64 ((rd_T69 l0_1 x9_2).f1)))) := ⟨by repeat (first | (with_reducible first | exact HB.out | apply below_alloc | apply pw_below_drewN | apply below_drew1 | refine below_set ?_ GE247.out | refine below_set ?_ GE253.out) | exact HB.out)⟩
             (try clear HO_7)
             (try clear BK247)
             (try clear BK253)
             (try clear HB)
             generalize ((w43.setCell ⟨gb253, 0, none⟩ (.int .i64 ((rd_T69 l0_1 x9_2).f0))).setCell ⟨gb253, 1, none⟩ (.int .i64 ((rd_T69 l0_1 x9_2).f1))) = w46 at n0_ n1_ n2_ n3_ ⊢
             have HO_7 := n0_
             have BK247 := n1_
             have BK253 := n2_
             have HB := n3_
             clear n0_ n1_ n2_ n3_
             have n0_ := Aside0.mk (Kd.R_drew HO_7.out)
             have n1_ := Aside0.mk (blk_drew BK247.out)
             have n2_ := Aside0.mk (blk_drew BK253.out)
             have n3_ := Aside0.mk (below_drew1 HB.out)
             clear HO_7
             clear BK247
             clear BK253
             clear HB
             have HO_7 := n0_
             have BK247 := n1_
             have BK253 := n2_
             have HB := n3_
             clear n0_ n1_ n2_ n3_
             refine start_ (n := 16) (S := fun w' => True) (ds := []) #[false, false, false, false, false, false, false, false, false, false, false, false, false, false, false, false] (by kernel_rfl) rfl rfl trivial (fun hHeld => ?_); refine with_tabW dropperref05_from.tab10 dropperref05_from.bits10 (fun HT_ HW_ => ?_)
             generalize w46.drew = w47 at HO_7 BK247 BK253 HB hHeld ⊢
             refine pst (i := 0) (N := some 30) (bz 16 1) (any_of HT_.out (by kernel_rfl)) ?_
             refine pst (i := 1) (N := some 31) (bz 16 3) (any_of HT_.out (by kernel_rfl)) ?_
             refine one_ (i := 2) (N := some 32) #[true, true, true, false, false, false, false, false, false, false, false, false, false, false, false, false] rfl rfl (one_of HT_.out (by kernel_rfl)) (by decide) (fun K hK => ?_)
             refine goes_ Tryd.func61 (by kernel_rfl) rfl #[.int .i64 a1, .int .i64 x9_2] (by rfl) rfl rfl mapz ?_
             with_reducible refine (dropperref05_closed.calls a1 x9_2 false _ A18.out).mono ?_
             rintro e w' ⟨rfl, ⟨nd, rfl⟩⟩
             refine ⟨_, rfl, ?_⟩
             refine hK.out _ _ trivial (fun hHeld => ?_)
             clear hK K
             refine norm_ (a' := ?_) ?_ ?_
             rotate_left
             ·
              show Act.put _ (some 32) _ = _
              simp only [Act.put, List.setIfInBounds_toArray, List.set_cons_zero, List.set_cons_succ, i64_w, i32_w]
              rfl
             refine pst (i := 3) (N := some 33) (bz 16 15) (any_of HT_.out (by kernel_rfl)) ?_
             refine pso (i := 4) (N := some 34) (bz 16 31) (any_of HT_.out (by kernel_rfl)) ?_
             refine pso (i := 5) (N := some 35) (bz 16 63) (any_of HT_.out (by kernel_rfl)) ?_
             refine pso (i := 6) (N := some 36) (bz 16 127) (any_of HT_.out (by kernel_rfl)) ?_
             refine pso (i := 7) (N := some 37) (bz 16 255) (any_of HT_.out (by kernel_rfl)) ?_
             refine pso (i := 8) (N := some 38) (bz 16 511) (any_of HT_.out (by kernel_rfl)) ?_
             refine pso (i := 9) (N := some 39) (bz 16 1023) (any_of HT_.out (by kernel_rfl)) ?_
             refine pso (i := 10) (N := some 40) (bz 16 2047) (any_of HT_.out (by kernel_rfl)) ?_
             refine pso (i := 11) (N := some 41) (bz 16 4095) (any_of HT_.out (by kernel_rfl)) ?_
             refine pso (i := 12) (N := some 42) (bz 16 8191) (any_of HT_.out (by kernel_rfl)) ?_
             refine pso (i := 13) (N := some 43) (bz 16 16383) (any_of HT_.out (by kernel_rfl)) ?_
             refine pso (i := 14) (N := some 44) (bz 16 32767) (any_of HT_.out (by kernel_rfl)) ?_
             refine pst (i := 15) (N := some 45) (bz 16 65535) (any_of HT_.out (by kernel_rfl)) ?_
             refine done_ (done_of HT_.out (by kernel_rfl)) ?_
             try go_wp2
             (try simp only [← hl7_2])
             go_roundg k2
             case measure => have := HK1.out; have := HK2.out; omega
             case rel => exact ⟨(x7_2), (x8_2), (wrap64 (x9_2 + 1)), rsz, rsz, H', ⟨by have := HK1.out; have := HK2.out; omega⟩, ⟨by (try simp only [hl7_1]); (try simp only [hl7_2]); (with_reducible repeat (first | apply Kd.R_alloc | apply Kd.R_drewN | apply Kd.R_drew)); exact HO_7.out⟩, ⟨by (try simp only [hl7_1]); (try simp only [hl7_2]); (with_reducible repeat (first | refine blk_drewN ?_ _ | refine blk_drew ?_ | refine blk_alloc ?_ _)); exact BK247.out⟩, ⟨by repeat (first | (with_reducible first | exact HB.out | apply below_alloc | apply pw_below_drewN | apply below_drew1 | refine below_set ?_ GE247.out | refine below_set ?_ GE253.out) | exact HB.out)⟩⟩
           ·
            rw [if_neg c17] at H
            exact absurd H (by simp)
          ·
           rw [if_neg c16] at H
           have c16b0 : decide (x9_2 < (l0_1.length : Int)) = false := decide_eq_false c16
           try (have c16b0hl7_1 := c16b0; simp only [hl7_1] at c16b0hl7_1)
           try (have c16b0hl7_2 := c16b0; simp only [hl7_2] at c16b0hl7_2)
           clear c16
           have H' := Aside0.mk H
           clear H
           have hcz48_0 := blkc BK247.out 0 (.int .i64 a0_0) rfl
           have hcz48_1 := blkc BK247.out 1 (.slice A0_1 l0_1.length c0_1) rfl
           have hcz48_2 := blkc BK247.out 2 (.slice A0_2 l0_2.length c0_2) rfl
           have hfz48_0 := blk_frozen BK247.out 0
           have hfz48_1 := blk_frozen BK247.out 1
           have hfz48_2 := blk_frozen BK247.out 2
           go_wp2
           (try simp only [← hl7_1, ← hl7_2])
           go_roundg k2
           case measure => have := HK1.out; have := HK2.out; omega
           case rel => exact ⟨(x7_2), (x8_2), rsz, H', ⟨by have := HK1.out; have := HK2.out; omega⟩, ⟨by (try simp only [hl7_1]); (try simp only [hl7_2]); (with_reducible repeat (first | apply Kd.R_alloc | apply Kd.R_drewN | apply Kd.R_drew)); exact HO_7.out⟩, ⟨by (try simp only [hl7_1]); (try simp only [hl7_2]); (with_reducible repeat (first | refine blk_drewN ?_ _ | refine blk_drew ?_ | refine blk_alloc ?_ _)); exact BK247.out⟩, ⟨by repeat (first | (with_reducible first | exact HB.out | apply below_alloc | apply pw_below_drewN | apply below_drew1 | refine below_set ?_ GE247.out) | exact HB.out)⟩⟩
       ·
        replace c15 := Bool.eq_false_iff.mpr c15
        subst c15
        have H1 : (some x7_1) = some r := by rw [if_neg (show ¬ (false = true) by decide)] at H; exact H
        clear H
        have H := H1
        clear H1
        obtain rfl := Option.some.inj H
        go_wp2
        go_ret
        exact ⟨_, by first | rfl | (simp [errW_none, errW_some] <;> rfl) | (simp [*, errW_none, errW_some] <;> rfl), by (with_reducible repeat (first | apply Kd.R_alloc | apply Kd.R_drewN | apply Kd.R_drew)); exact HO_7.out, by repeat (first | (with_reducible first | exact HB.out | apply below_alloc | apply pw_below_drewN | apply below_drew1 | refine below_set ?_ GE247.out) | exact HB.out)⟩
    ·
     rw [if_neg c7] at H
     exact absurd H (by simp)
   ·
    rw [if_neg c6] at H
    exact absurd H (by simp)
  ·
   rw [if_neg c5] at H
   exact absurd H (by simp)
 ·
  rw [if_neg c4] at H
  exact absurd H (by simp)

end Go.Proofs.YtoilhnmdemnknaaDoor.XFeed
