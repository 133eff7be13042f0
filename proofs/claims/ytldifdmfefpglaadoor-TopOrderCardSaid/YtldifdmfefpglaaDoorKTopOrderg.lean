-- Written by wip/pack.py of this repo: texts of this claim, put together.
import Derived.Test.YtldifdmfefpglaaDoorKTopOrderf
namespace Go.Proofs.YtldifdmfefpglaaDoor.XFeed
open Go.RowKit Go.Proofs.YtldifdmfefpglaaDoorW.PrintWords Go.Proofs.YtldifdmfefpglaaDoorW.PrintLast Go.Proofs.YtldifdmfefpglaaDoorW.PrintMore
attribute [local go_sem] max2_int min2_int max_two min_two max_three min_three max_four min_four   -- for this text's walks alone
set_option linter.unusedVariables false
set_option linter.unusedSimpArgs false
/-! ### droppertop_TopOrder: function 3 -/
mutual
def droppertop_TopOrder.j0 : Nat → Bool → Int → List (S47) → List (S49) → Int → Int → List Int → List Int → List Int → Option (Bool)
 | 0, _, _, _, _, _, _, _, _, _ => none
 | k + 1, x58, x367000, x367001, x367002, x368000, x368001, x368002, x368003, x368004 => if x58 = true then ((dropperlaw05_First.f k).bind fun t372 => (some t372)) else ((feed_Reach.f k x367000 x367001 x367002 x368000 x368002).bind fun bt373 => ((feed_Order.f k x367000 x367001 x367002 x368000 x368001 x368002).bind fun bt377 => ((feed_IsShut.f k x367000 x367001 x367002 x368002 bt373.1).bind fun bt381 => (if bt373.2 = 0 then (if bt377.2 = 0 then (if bt381.2 = 0 then (if bt381.1 = true then ((droppertop_holds.f k bt373.1 x368000).bind fun t383 => (if t383 = true then ((droppertop_holds.f k bt373.1 x368001).bind fun t384 => (droppertop_TopOrder.j1 k bt373.1 bt377.1 bt377.2 ((bt377.2 == 0) != t384) x367000 x367001 x367002 x368000 x368001 x368002 x368003 x368004)) else (droppertop_TopOrder.j1 k bt373.1 bt377.1 bt377.2 true x367000 x367001 x367002 x368000 x368001 x368002 x368003 x368004))) else (droppertop_TopOrder.j1 k bt373.1 bt377.1 bt377.2 true x367000 x367001 x367002 x368000 x368001 x368002 x368003 x368004)) else (droppertop_TopOrder.j1 k bt373.1 bt377.1 bt377.2 true x367000 x367001 x367002 x368000 x368001 x368002 x368003 x368004)) else (if bt377.2 = 5 then (if bt381.2 = 0 then (if bt381.1 = true then ((droppertop_holds.f k bt373.1 x368000).bind fun t385 => (if t385 = true then ((droppertop_holds.f k bt373.1 x368001).bind fun t386 => (droppertop_TopOrder.j1 k bt373.1 bt377.1 bt377.2 ((bt377.2 == 0) != t386) x367000 x367001 x367002 x368000 x368001 x368002 x368003 x368004)) else (droppertop_TopOrder.j1 k bt373.1 bt377.1 bt377.2 true x367000 x367001 x367002 x368000 x368001 x368002 x368003 x368004))) else (droppertop_TopOrder.j1 k bt373.1 bt377.1 bt377.2 true x367000 x367001 x367002 x368000 x368001 x368002 x368003 x368004)) else (droppertop_TopOrder.j1 k bt373.1 bt377.1 bt377.2 true x367000 x367001 x367002 x368000 x368001 x368002 x368003 x368004)) else (droppertop_TopOrder.j1 k bt373.1 bt377.1 bt377.2 true x367000 x367001 x367002 x368000 x368001 x368002 x368003 x368004))) else (droppertop_TopOrder.j1 k bt373.1 bt377.1 bt377.2 true x367000 x367001 x367002 x368000 x368001 x368002 x368003 x368004)))))
def droppertop_TopOrder.j1 : Nat → List Int → List Int → Int → Bool → Int → List (S47) → List (S49) → Int → Int → List Int → List Int → List Int → Option (Bool)
 | 0, _, _, _, _, _, _, _, _, _, _, _, _ => none
 | k + 1, x5, x7, x8, x121, x367000, x367001, x367002, x368000, x368001, x368002, x368003, x368004 => if x121 = true then (none) else (if x8 = 0 then ((droppertop_leads.f k x367000 x367001 x367002 x368000 x368001 x368002 x7).bind fun t387 => (droppertop_TopOrder.j2 k x5 x7 (!t387) x367000 x367001 x367002 x368000 x368001 x368002 x368003 x368004)) else (droppertop_TopOrder.j2 k x5 x7 false x367000 x367001 x367002 x368000 x368001 x368002 x368003 x368004))
def droppertop_TopOrder.j2 : Nat → List Int → List Int → Bool → Int → List (S47) → List (S49) → Int → Int → List Int → List Int → List Int → Option (Bool)
 | 0, _, _, _, _, _, _, _, _, _, _, _ => none
 | k + 1, x5, x7, x135, x367000, x367001, x367002, x368000, x368001, x368002, x368003, x368004 => if x135 = true then (none) else ((dropperref05_IsOrder.f k x367000 x367001 x367002 x368000 x368002 x368003).bind fun bt388 => (if bt388.2 = 0 then (droppertop_TopOrder.j3 k x5 x7 bt388.1 x367000 x367001 x367002 x368000 x368001 x368002 x368003 x368004) else (droppertop_TopOrder.j3 k x5 x7 false x367000 x367001 x367002 x368000 x368001 x368002 x368003 x368004)))
def droppertop_TopOrder.j3 : Nat → List Int → List Int → Bool → Int → List (S47) → List (S49) → Int → Int → List Int → List Int → List Int → Option (Bool)
 | 0, _, _, _, _, _, _, _, _, _, _, _ => none
 | k + 1, x5, x7, x151, x367000, x367001, x367002, x368000, x368001, x368002, x368003, x368004 => if x151 = true then ((feed_After.f k x367000 x367001 x367002 x368000 x368003).bind fun bt390 => (if bt390.2 = 0 then ((droppertop_holds.f k x5 bt390.1).bind fun t392 => (droppertop_TopOrder.j4 k x5 x7 bt390.1 (!t392) x367000 x367001 x367002 x368000 x368001 x368002 x368003 x368004)) else (droppertop_TopOrder.j4 k x5 x7 bt390.1 true x367000 x367001 x367002 x368000 x368001 x368002 x368003 x368004))) else (droppertop_TopOrder.j5 k x5 x367000 x367001 x367002 x368000 x368001 x368002 x368003 x368004)
def droppertop_TopOrder.j5 : Nat → List Int → Int → List (S47) → List (S49) → Int → Int → List Int → List Int → List Int → Option (Bool)
 | 0, _, _, _, _, _, _, _, _, _ => none
 | k + 1, x5, x367000, x367001, x367002, x368000, x368001, x368002, x368003, x368004 => (dropperref05_IsShut.f k x367000 x367001 x367002 x368002 x368004).bind fun bt393 => (if bt393.2 = 0 then (if bt393.1 = true then ((droppertop_holds.f k x368004 x368000).bind fun t395 => (droppertop_TopOrder.j6 k x5 t395 x368000 x368001 x368002 x368003 x368004)) else (droppertop_TopOrder.j6 k x5 false x368000 x368001 x368002 x368003 x368004)) else (droppertop_TopOrder.j6 k x5 false x368000 x368001 x368002 x368003 x368004))
def droppertop_TopOrder.j6 : Nat → List Int → Bool → Int → Int → List Int → List Int → List Int → Option (Bool)
 | 0, _, _, _, _, _, _, _ => none
 | k + 1, x5, x201, x368000, x368001, x368002, x368003, x368004 => if x201 = true then (droppertop_TopOrder.l0 k x5 0 x368000 x368001 x368002 x368003 x368004) else ((dropperlaw05_First.f k).bind fun t399 => (some t399))
def droppertop_TopOrder.l0 : Nat → List Int → Int → Int → Int → List Int → List Int → List Int → Option (Bool)
 | 0, _, _, _, _, _, _, _ => none
 | k + 1, x5, x14, x368000, x368001, x368002, x368003, x368004 => if x14 < (x5.length : Int) then (if 0 ≤ x14 then ((droppertop_holds.f k x368004 (rd x5 x14)).bind fun t397 => (if t397 = true then (droppertop_TopOrder.l0 k x5 (wrap64 (x14 + 1)) x368000 x368001 x368002 x368003 x368004) else (none))) else (none)) else ((dropperlaw05_First.f k).bind fun t398 => (some t398))
def droppertop_TopOrder.j4 : Nat → List Int → List Int → Int → Bool → Int → List (S47) → List (S49) → Int → Int → List Int → List Int → List Int → Option (Bool)
 | 0, _, _, _, _, _, _, _, _, _, _, _, _ => none
 | k + 1, x5, x7, x12, x168, x367000, x367001, x367002, x368000, x368001, x368002, x368003, x368004 => if x168 = true then (none) else (if (x7.length : Int) > (x368003.length : Int) then (if x12 = x368001 then (none) else (droppertop_TopOrder.j5 k x5 x367000 x367001 x367002 x368000 x368001 x368002 x368003 x368004)) else (droppertop_TopOrder.j5 k x5 x367000 x367001 x367002 x368000 x368001 x368002 x368003 x368004))
end
def droppertop_TopOrder.f (k : Nat) (a0_0 : Int) (l0_1 : List (S47)) (l0_2 : List (S49)) (a1_0 : Int) (a1_1 : Int) (l1_2 : List Int) (l1_3 : List Int) (l1_4 : List Int) : Option (Bool) := (dropperref05_Valid.f k a0_0 l0_1 l0_2).bind fun t368 => (if t368 = true then (if (l1_2.length : Int) > 20 then (droppertop_TopOrder.j0 k true a0_0 l0_1 l0_2 a1_0 a1_1 l1_2 l1_3 l1_4) else (if (l1_3.length : Int) > 200 then (droppertop_TopOrder.j0 k true a0_0 l0_1 l0_2 a1_0 a1_1 l1_2 l1_3 l1_4) else (if (l1_4.length : Int) > 1100 then (droppertop_TopOrder.j0 k true a0_0 l0_1 l0_2 a1_0 a1_1 l1_2 l1_3 l1_4) else ((dropperref05_IsKeep.f k a0_0 l0_1 l0_2 l1_2).bind fun t369 => (if t369 = true then ((dropperref05_Good.f k a0_0 l0_1 l0_2 a1_0 l1_2).bind fun t370 => (if t370 = true then ((dropperref05_IsState.f a0_0 l0_1 l0_2 a1_1).bind fun t371 => (droppertop_TopOrder.j0 k (!t371) a0_0 l0_1 l0_2 a1_0 a1_1 l1_2 l1_3 l1_4)) else (droppertop_TopOrder.j0 k true a0_0 l0_1 l0_2 a1_0 a1_1 l1_2 l1_3 l1_4))) else (droppertop_TopOrder.j0 k true a0_0 l0_1 l0_2 a1_0 a1_1 l1_2 l1_3 l1_4)))))) else (droppertop_TopOrder.j0 k true a0_0 l0_1 l0_2 a1_0 a1_1 l1_2 l1_3 l1_4))
set_option maxHeartbeats 8000000 in
set_option maxRecDepth 100000 in
theorem droppertop_TopOrder.calls (k : Nat) (a0_0 : Int) (A0_1 : Option Addr) (c0_1 : Nat) (l0_1 : List (S47)) (A0_2 : Option Addr) (c0_2 : Nat) (l0_2 : List (S49)) (a1_0 : Int) (a1_1 : Int) (A1_2 : Option Addr) (c1_2 : Nat) (l1_2 : List Int) (A1_3 : Option Addr) (c1_3 : Nat) (l1_3 : List Int) (A1_4 : Option Addr) (c1_4 : Nat) (l1_4 : List Int) (r : Bool) (w : World) (hr0_1 : Kd.C k47 w A0_1 l0_1.length l0_1) (hc0_1 : l0_1.length ≤ c0_1) (hr0_2 : Kd.C k49 w A0_2 l0_2.length l0_2) (hc0_2 : l0_2.length ≤ c0_2) (hr1_2 : Kd.C (Kd.int .i64) w A1_2 l1_2.length l1_2) (hc1_2 : l1_2.length ≤ c1_2) (hr1_3 : Kd.C (Kd.int .i64) w A1_3 l1_3.length l1_3) (hc1_3 : l1_3.length ≤ c1_3) (hr1_4 : Kd.C (Kd.int .i64) w A1_4 l1_4.length l1_4) (hc1_4 : l1_4.length ≤ c1_4) (hT : Tab.Tabs w) (h : droppertop_TopOrder.f k a0_0 l0_1 l0_2 a1_0 a1_1 l1_2 l1_3 l1_4 = some r) :
  Calls Tryd.prog 3 #[.agg #[.int .i64 a0_0, .slice A0_1 l0_1.length c0_1, .slice A0_2 l0_2.length c0_2], .agg #[.int .i64 a1_0, .int .i64 a1_1, .slice A1_2 l1_2.length c1_2, .slice A1_3 l1_3.length c1_3, .slice A1_4 l1_4.length c1_4]] w fun e w' => e = .returned (.bool r) ∧ Below w.heap.size w w' := by
 have HT := Aside0.mk hT
 clear hT
 have hu25 := Tryd.underlying25
 have hu28 := Tryd.underlying28
 have HR0_1 := Aside0.mk hr0_1
 have HC0_1 := Aside0.mk hc0_1
 clear hr0_1 hc0_1
 have HR0_2 := Aside0.mk hr0_2
 have HC0_2 := Aside0.mk hc0_2
 clear hr0_2 hc0_2
 have HR1_2 := Aside0.mk hr1_2
 have HC1_2 := Aside0.mk hc1_2
 clear hr1_2 hc1_2
 have HR1_3 := Aside0.mk hr1_3
 have HC1_3 := Aside0.mk hc1_3
 clear hr1_3 hc1_3
 have HR1_4 := Aside0.mk hr1_4
 have HC1_4 := Aside0.mk hc1_4
 clear hr1_4 hc1_4
 have HB := Aside0.mk (Below.refl w.heap.size w)
 have H : ((dropperref05_Valid.f k a0_0 l0_1 l0_2).bind fun t368 => (if t368 = true then (if (l1_2.length : Int) > 20 then (droppertop_TopOrder.j0 k true a0_0 l0_1 l0_2 a1_0 a1_1 l1_2 l1_3 l1_4) else (if (l1_3.length : Int) > 200 then (droppertop_TopOrder.j0 k true a0_0 l0_1 l0_2 a1_0 a1_1 l1_2 l1_3 l1_4) else (if (l1_4.length : Int) > 1100 then (droppertop_TopOrder.j0 k true a0_0 l0_1 l0_2 a1_0 a1_1 l1_2 l1_3 l1_4) else ((dropperref05_IsKeep.f k a0_0 l0_1 l0_2 l1_2).bind fun t369 => (if t369 = true then ((dropperref05_Good.f k a0_0 l0_1 l0_2 a1_0 l1_2).bind fun t370 => (if t370 = true then ((dropperref05_IsState.f a0_0 l0_1 l0_2 a1_1).bind fun t371 => (droppertop_TopOrder.j0 k (!t371) a0_0 l0_1 l0_2 a1_0 a1_1 l1_2 l1_3 l1_4)) else (droppertop_TopOrder.j0 k true a0_0 l0_1 l0_2 a1_0 a1_1 l1_2 l1_3 l1_4))) else (droppertop_TopOrder.j0 k true a0_0 l0_1 l0_2 a1_0 a1_1 l1_2 l1_3 l1_4)))))) else (droppertop_TopOrder.j0 k true a0_0 l0_1 l0_2 a1_0 a1_1 l1_2 l1_3 l1_4))) = some r := h
 clear h
 have HC3 := Aside0.mk H
 clear H
 go_enter Tryd.func3, Tryd.ntmps3
 go_upto_region 1 with (first | ((with_reducible refine gate_dst (N := 2) rfl ?_); (try (refine gate_guard (by rfl) ?_; dsimp only)); refine box_event ?hg (N := 2) ?hd (cs := #[.int .i64 a0_0, .slice A0_1 l0_1.length c0_1, .slice A0_2 l0_2.length c0_2]) (t := 25) ?hr ?_; (case hd => rfl); (case hg => rfl); (case hr => first | (go_simp; done) | (go_simp; rfl)); intro gb366 hg w4 hbox hb; have BK366 := Aside0.mk (hbox); have GW366 := bsz (w := w) hg; have GE366 := GW366; replace HB := Aside0.mk (below_step bel hb); clear hb hbox hg) | ((with_reducible refine gate_dst (N := 3) rfl ?_); (try (refine gate_guard (by rfl) ?_; dsimp only)); refine box_event ?hg (N := 3) ?hd (cs := #[.int .i64 a1_0, .int .i64 a1_1, .slice A1_2 l1_2.length c1_2, .slice A1_3 l1_3.length c1_3, .slice A1_4 l1_4.length c1_4]) (t := 28) ?hr ?_; (case hd => rfl); (case hg => rfl); (case hr => first | (go_simp; done) | (go_simp; rfl)); intro gb367 hg w5 hbox hb; have BK367 := Aside0.mk (hbox); have GW367 := bsz (w := w) hg; have GE367 := GW367; have NB366_367 := neL (g := gb366) hg; have NB367_366 := neR (g := gb366) hg; replace BK366 := Aside0.mk (blk_below (g := gb366) blkz hb); replace HB := Aside0.mk (below_step bel hb); clear hb hbox hg))
 repeat (go_quiet (first | ((with_reducible refine gate_dst (N := 2) rfl ?_); (try (refine gate_guard (by rfl) ?_; dsimp only)); refine box_event ?hg (N := 2) ?hd (cs := #[.int .i64 a0_0, .slice A0_1 l0_1.length c0_1, .slice A0_2 l0_2.length c0_2]) (t := 25) ?hr ?_; (case hd => rfl); (case hg => rfl); (case hr => first | (go_simp; done) | (go_simp; rfl)); intro gb366 hg w4 hbox hb; have BK366 := Aside0.mk (hbox); have GW366 := bsz (w := w) hg; have GE366 := GW366; replace HB := Aside0.mk (below_step bel hb); clear hb hbox hg) | ((with_reducible refine gate_dst (N := 3) rfl ?_); (try (refine gate_guard (by rfl) ?_; dsimp only)); refine box_event ?hg (N := 3) ?hd (cs := #[.int .i64 a1_0, .int .i64 a1_1, .slice A1_2 l1_2.length c1_2, .slice A1_3 l1_3.length c1_3, .slice A1_4 l1_4.length c1_4]) (t := 28) ?hr ?_; (case hd => rfl); (case hg => rfl); (case hr => first | (go_simp; done) | (go_simp; rfl)); intro gb367 hg w5 hbox hb; have BK367 := Aside0.mk (hbox); have GW367 := bsz (w := w) hg; have GE367 := GW367; have NB366_367 := neL (g := gb366) hg; have NB367_366 := neR (g := gb366) hg; replace BK366 := Aside0.mk (blk_below (g := gb366) blkz hb); replace HB := Aside0.mk (below_step bel hb); clear hb hbox hg)); go_upto_region 1 with (first | ((with_reducible refine gate_dst (N := 2) rfl ?_); (try (refine gate_guard (by rfl) ?_; dsimp only)); refine box_event ?hg (N := 2) ?hd (cs := #[.int .i64 a0_0, .slice A0_1 l0_1.length c0_1, .slice A0_2 l0_2.length c0_2]) (t := 25) ?hr ?_; (case hd => rfl); (case hg => rfl); (case hr => first | (go_simp; done) | (go_simp; rfl)); intro gb366 hg w4 hbox hb; have BK366 := Aside0.mk (hbox); have GW366 := bsz (w := w) hg; have GE366 := GW366; replace HB := Aside0.mk (below_step bel hb); clear hb hbox hg) | ((with_reducible refine gate_dst (N := 3) rfl ?_); (try (refine gate_guard (by rfl) ?_; dsimp only)); refine box_event ?hg (N := 3) ?hd (cs := #[.int .i64 a1_0, .int .i64 a1_1, .slice A1_2 l1_2.length c1_2, .slice A1_3 l1_3.length c1_3, .slice A1_4 l1_4.length c1_4]) (t := 28) ?hr ?_; (case hd => rfl); (case hg => rfl); (case hr => first | (go_simp; done) | (go_simp; rfl)); intro gb367 hg w5 hbox hb; have BK367 := Aside0.mk (hbox); have GW367 := bsz (w := w) hg; have GE367 := GW367; have NB366_367 := neL (g := gb366) hg; have NB367_366 := neR (g := gb366) hg; replace BK366 := Aside0.mk (blk_below (g := gb366) blkz hb); replace HB := Aside0.mk (below_step bel hb); clear hb hbox hg)))
 (try simp only [Act.put, List.setIfInBounds_toArray, List.set_cons_zero, List.set_cons_succ])
 go_cut [58] (fun v58 wc => ∃ (kq : Nat) (x58_2 : Bool), v58 = .bool x58_2 ∧ Aside0 (droppertop_TopOrder.j0 kq x58_2 a0_0 l0_1 l0_2 a1_0 a1_1 l1_2 l1_3 l1_4 = some r) ∧ Aside0 (kq ≤ k) ∧ Aside0 (wc.heap[gb366]? = some (.cells #[.int .i64 a0_0, (.slice A0_1 l0_1.length c0_1), (.slice A0_2 l0_2.length c0_2)] 25 (0, 0))) ∧ Aside0 (wc.heap[gb367]? = some (.cells #[.int .i64 a1_0, .int .i64 a1_1, (.slice A1_2 l1_2.length c1_2), (.slice A1_3 l1_3.length c1_3), (.slice A1_4 l1_4.length c1_4)] 28 (0, 0))) ∧ Aside0 (Below w.heap.size w wc))
 case first =>
  have H := HC3.out
  clear HC3
  replace H := Option.bind_eq_some_iff.mp H
  obtain ⟨t368, A60, H⟩ := H
  try dsimp only at H
  have A6 := Aside0.mk A60
  clear A60
  by_cases c7 : t368 = true
  ·
   subst c7
   rw [if_pos rfl] at H
   by_cases c8 : (l1_2.length : Int) > 20
   ·
    rw [if_pos c8] at H
    have c8b0 : decide (20 < (l1_2.length : Int)) = true := decide_eq_true c8
    have c8b1 : decide (20 < l1_2.length) = true := decide_eq_true (by omega)
    clear c8
    (first | rw [c8b0] | (simp only [i64_w, i32_w]; rw [c8b0]) | skip)
    have H' := Aside0.mk H
    clear H
    have hnb9 := NB366_367.out
    have hnc9 := NB367_366.out
    obtain ⟨hcz10_0, hcz10_1, hcz10_2⟩ := bc3 BK366.out
    obtain ⟨hfz10_0, hfz10_1, hfz10_2⟩ := bf3 BK366.out
    go_wp2_with (first | (go_at_call 4; (with_reducible refine (dropperref05_Valid.calls k a0_0 _ _ l0_1 _ _ l0_2 true _ (cbz HR0_1) HC0_1.out (cbz HR0_2) HC0_2.out A6.out).mono ?_); rintro e w11 ⟨rfl, hb⟩; replace BK366 := Aside0.mk (blk_below (g := gb366) blkz hb); replace BK367 := Aside0.mk (blk_below (g := gb367) blkz hb); replace HB := Aside0.mk (below_step bel hb); clear hb; obtain ⟨hcz12_0, hcz12_1, hcz12_2, hcz12_3, hcz12_4⟩ := bc5 BK367.out))
    repeat (go_quiet (first | (go_at_call 4; (with_reducible refine (dropperref05_Valid.calls k a0_0 _ _ l0_1 _ _ l0_2 true _ (cbz HR0_1) HC0_1.out (cbz HR0_2) HC0_2.out A6.out).mono ?_); rintro e w11 ⟨rfl, hb⟩; replace BK366 := Aside0.mk (blk_below (g := gb366) blkz hb); replace BK367 := Aside0.mk (blk_below (g := gb367) blkz hb); replace HB := Aside0.mk (below_step bel hb); clear hb; obtain ⟨hcz12_0, hcz12_1, hcz12_2, hcz12_3, hcz12_4⟩ := bc5 BK367.out)); try go_wp2_with (first | (go_at_call 4; (with_reducible refine (dropperref05_Valid.calls k a0_0 _ _ l0_1 _ _ l0_2 true _ (cbz HR0_1) HC0_1.out (cbz HR0_2) HC0_2.out A6.out).mono ?_); rintro e w11 ⟨rfl, hb⟩; replace BK366 := Aside0.mk (blk_below (g := gb366) blkz hb); replace BK367 := Aside0.mk (blk_below (g := gb367) blkz hb); replace HB := Aside0.mk (below_step bel hb); clear hb; obtain ⟨hcz12_0, hcz12_1, hcz12_2, hcz12_3, hcz12_4⟩ := bc5 BK367.out)))
    go_meet
    case rel => exact ⟨_, (true), rsz, H', ⟨by first | omega | exact Nat.le_refl _⟩, ⟨blkz⟩, ⟨blkz⟩, ⟨bel⟩⟩
   ·
    rw [if_neg c8] at H
    have c8b0 : decide (20 < (l1_2.length : Int)) = false := decide_eq_false c8
    have c8b1 : decide (20 < l1_2.length) = false := decide_eq_false (by omega)
    clear c8
    (first | rw [c8b0] | (simp only [i64_w, i32_w]; rw [c8b0]) | skip)
    by_cases c13 : (l1_3.length : Int) > 200
    ·
     rw [if_pos c13] at H
     have c13b0 : decide (200 < (l1_3.length : Int)) = true := decide_eq_true c13
     have c13b1 : decide (200 < l1_3.length) = true := decide_eq_true (by omega)
     clear c13
     have H' := Aside0.mk H
     clear H
     have hnb14 := NB366_367.out
     have hnc14 := NB367_366.out
     obtain ⟨hcz15_0, hcz15_1, hcz15_2⟩ := bc3 BK366.out
     obtain ⟨hfz15_0, hfz15_1, hfz15_2⟩ := bf3 BK366.out
     go_wp2_with (first | (go_at_call 4; (with_reducible refine (dropperref05_Valid.calls k a0_0 _ _ l0_1 _ _ l0_2 true _ (cbz HR0_1) HC0_1.out (cbz HR0_2) HC0_2.out A6.out).mono ?_); rintro e w16 ⟨rfl, hb⟩; replace BK366 := Aside0.mk (blk_below (g := gb366) blkz hb); replace BK367 := Aside0.mk (blk_below (g := gb367) blkz hb); replace HB := Aside0.mk (below_step bel hb); clear hb; obtain ⟨hcz17_0, hcz17_1, hcz17_2, hcz17_3, hcz17_4⟩ := bc5 BK367.out))
     repeat (go_quiet (first | (go_at_call 4; (with_reducible refine (dropperref05_Valid.calls k a0_0 _ _ l0_1 _ _ l0_2 true _ (cbz HR0_1) HC0_1.out (cbz HR0_2) HC0_2.out A6.out).mono ?_); rintro e w16 ⟨rfl, hb⟩; replace BK366 := Aside0.mk (blk_below (g := gb366) blkz hb); replace BK367 := Aside0.mk (blk_below (g := gb367) blkz hb); replace HB := Aside0.mk (below_step bel hb); clear hb; obtain ⟨hcz17_0, hcz17_1, hcz17_2, hcz17_3, hcz17_4⟩ := bc5 BK367.out)); try go_wp2_with (first | (go_at_call 4; (with_reducible refine (dropperref05_Valid.calls k a0_0 _ _ l0_1 _ _ l0_2 true _ (cbz HR0_1) HC0_1.out (cbz HR0_2) HC0_2.out A6.out).mono ?_); rintro e w16 ⟨rfl, hb⟩; replace BK366 := Aside0.mk (blk_below (g := gb366) blkz hb); replace BK367 := Aside0.mk (blk_below (g := gb367) blkz hb); replace HB := Aside0.mk (below_step bel hb); clear hb; obtain ⟨hcz17_0, hcz17_1, hcz17_2, hcz17_3, hcz17_4⟩ := bc5 BK367.out)))
     go_meet
     case rel => exact ⟨_, (true), rsz, H', ⟨by first | omega | exact Nat.le_refl _⟩, ⟨blkz⟩, ⟨blkz⟩, ⟨bel⟩⟩
    ·
     rw [if_neg c13] at H
     have c13b0 : decide (200 < (l1_3.length : Int)) = false := decide_eq_false c13
     have c13b1 : decide (200 < l1_3.length) = false := decide_eq_false (by omega)
     clear c13
     by_cases c18 : (l1_4.length : Int) > 1100
     ·
      rw [if_pos c18] at H
      have c18b0 : decide (1100 < (l1_4.length : Int)) = true := decide_eq_true c18
      have c18b1 : decide (1100 < l1_4.length) = true := decide_eq_true (by omega)
      clear c18
      have H' := Aside0.mk H
      clear H
      have hnb19 := NB366_367.out
      have hnc19 := NB367_366.out
      obtain ⟨hcz20_0, hcz20_1, hcz20_2⟩ := bc3 BK366.out
      obtain ⟨hfz20_0, hfz20_1, hfz20_2⟩ := bf3 BK366.out
      go_wp2_with (first | (go_at_call 4; (with_reducible refine (dropperref05_Valid.calls k a0_0 _ _ l0_1 _ _ l0_2 true _ (cbz HR0_1) HC0_1.out (cbz HR0_2) HC0_2.out A6.out).mono ?_); rintro e w21 ⟨rfl, hb⟩; replace BK366 := Aside0.mk (blk_below (g := gb366) blkz hb); replace BK367 := Aside0.mk (blk_below (g := gb367) blkz hb); replace HB := Aside0.mk (below_step bel hb); clear hb; obtain ⟨hcz22_0, hcz22_1, hcz22_2, hcz22_3, hcz22_4⟩ := bc5 BK367.out))
      repeat (go_quiet (first | (go_at_call 4; (with_reducible refine (dropperref05_Valid.calls k a0_0 _ _ l0_1 _ _ l0_2 true _ (cbz HR0_1) HC0_1.out (cbz HR0_2) HC0_2.out A6.out).mono ?_); rintro e w21 ⟨rfl, hb⟩; replace BK366 := Aside0.mk (blk_below (g := gb366) blkz hb); replace BK367 := Aside0.mk (blk_below (g := gb367) blkz hb); replace HB := Aside0.mk (below_step bel hb); clear hb; obtain ⟨hcz22_0, hcz22_1, hcz22_2, hcz22_3, hcz22_4⟩ := bc5 BK367.out)); try go_wp2_with (first | (go_at_call 4; (with_reducible refine (dropperref05_Valid.calls k a0_0 _ _ l0_1 _ _ l0_2 true _ (cbz HR0_1) HC0_1.out (cbz HR0_2) HC0_2.out A6.out).mono ?_); rintro e w21 ⟨rfl, hb⟩; replace BK366 := Aside0.mk (blk_below (g := gb366) blkz hb); replace BK367 := Aside0.mk (blk_below (g := gb367) blkz hb); replace HB := Aside0.mk (below_step bel hb); clear hb; obtain ⟨hcz22_0, hcz22_1, hcz22_2, hcz22_3, hcz22_4⟩ := bc5 BK367.out)))
      go_meet
      case rel => exact ⟨_, (true), rsz, H', ⟨by first | omega | exact Nat.le_refl _⟩, ⟨blkz⟩, ⟨blkz⟩, ⟨bel⟩⟩
     ·
      rw [if_neg c18] at H
      have c18b0 : decide (1100 < (l1_4.length : Int)) = false := decide_eq_false c18
      have c18b1 : decide (1100 < l1_4.length) = false := decide_eq_false (by omega)
      clear c18
      replace H := Option.bind_eq_some_iff.mp H
      obtain ⟨t369, A230, H⟩ := H
      try dsimp only at H
      have A23 := Aside0.mk A230
      clear A230
      by_cases c24 : t369 = true
      ·
       subst c24
       rw [if_pos rfl] at H
       replace H := Option.bind_eq_some_iff.mp H
       obtain ⟨t370, A250, H⟩ := H
       try dsimp only at H
       have A25 := Aside0.mk A250
       clear A250
       by_cases c26 : t370 = true
       ·
        subst c26
        rw [if_pos rfl] at H
        replace H := Option.bind_eq_some_iff.mp H
        obtain ⟨t371, A270, H⟩ := H
        try dsimp only at H
        have A27 := Aside0.mk A270
        clear A270
        have H' := Aside0.mk H
        clear H
        have hnb28 := NB366_367.out
        have hnc28 := NB367_366.out
        obtain ⟨hcz29_0, hcz29_1, hcz29_2⟩ := bc3 BK366.out
        obtain ⟨hfz29_0, hfz29_1, hfz29_2⟩ := bf3 BK366.out
        go_wp2_with (first | (go_at_call 4; (with_reducible refine (dropperref05_Valid.calls k a0_0 _ _ l0_1 _ _ l0_2 true _ (cbz HR0_1) HC0_1.out (cbz HR0_2) HC0_2.out A6.out).mono ?_); rintro e w30 ⟨rfl, hb⟩; replace BK366 := Aside0.mk (blk_below (g := gb366) blkz hb); replace BK367 := Aside0.mk (blk_below (g := gb367) blkz hb); replace HB := Aside0.mk (below_step bel hb); clear hb; obtain ⟨hcz31_0, hcz31_1, hcz31_2, hcz31_3, hcz31_4⟩ := bc5 BK367.out; obtain ⟨hcz32_0, hcz32_1, hcz32_2⟩ := bc3 BK366.out) | (go_at_call 5; (with_reducible refine (dropperref05_IsKeep.calls k a0_0 _ _ l0_1 _ _ l0_2 _ _ l1_2 true _ (cbz HR0_1) HC0_1.out (cbz HR0_2) HC0_2.out (cbz HR1_2) HC1_2.out A23.out).mono ?_); rintro e w33 ⟨rfl, hb⟩; replace BK366 := Aside0.mk (blk_below (g := gb366) blkz hb); replace BK367 := Aside0.mk (blk_below (g := gb367) blkz hb); replace HB := Aside0.mk (below_step bel hb); clear hb; obtain ⟨hcz34_0, hcz34_1, hcz34_2⟩ := bc3 BK366.out; obtain ⟨hcz35_0, hcz35_1, hcz35_2, hcz35_3, hcz35_4⟩ := bc5 BK367.out) | (go_at_call 6; (with_reducible refine (dropperref05_Good.calls k a0_0 _ _ l0_1 _ _ l0_2 a1_0 _ _ l1_2 true _ (cbz HR0_1) HC0_1.out (cbz HR0_2) HC0_2.out (cbz HR1_2) HC1_2.out A25.out).mono ?_); rintro e w36 ⟨rfl, hb⟩; replace BK366 := Aside0.mk (blk_below (g := gb366) blkz hb); replace BK367 := Aside0.mk (blk_below (g := gb367) blkz hb); replace HB := Aside0.mk (below_step bel hb); clear hb; obtain ⟨hcz37_0, hcz37_1, hcz37_2⟩ := bc3 BK366.out; obtain ⟨hcz38_0, hcz38_1, hcz38_2, hcz38_3, hcz38_4⟩ := bc5 BK367.out) | (go_at_call 7; (with_reducible refine (dropperref05_IsState.calls a0_0 _ _ l0_1 _ _ l0_2 a1_1 t371 _ (cbz HR0_1) HC0_1.out (cbz HR0_2) HC0_2.out A27.out).mono ?_); rintro e w39 ⟨rfl, hb⟩; replace BK366 := Aside0.mk (blk_below (g := gb366) blkz hb); replace BK367 := Aside0.mk (blk_below (g := gb367) blkz hb); replace HB := Aside0.mk (below_step bel hb); clear hb))
        repeat (go_quiet (first | (go_at_call 4; (with_reducible refine (dropperref05_Valid.calls k a0_0 _ _ l0_1 _ _ l0_2 true _ (cbz HR0_1) HC0_1.out (cbz HR0_2) HC0_2.out A6.out).mono ?_); rintro e w30 ⟨rfl, hb⟩; replace BK366 := Aside0.mk (blk_below (g := gb366) blkz hb); replace BK367 := Aside0.mk (blk_below (g := gb367) blkz hb); replace HB := Aside0.mk (below_step bel hb); clear hb; obtain ⟨hcz31_0, hcz31_1, hcz31_2, hcz31_3, hcz31_4⟩ := bc5 BK367.out; obtain ⟨hcz32_0, hcz32_1, hcz32_2⟩ := bc3 BK366.out) | (go_at_call 5; (with_reducible refine (dropperref05_IsKeep.calls k a0_0 _ _ l0_1 _ _ l0_2 _ _ l1_2 true _ (cbz HR0_1) HC0_1.out (cbz HR0_2) HC0_2.out (cbz HR1_2) HC1_2.out A23.out).mono ?_); rintro e w33 ⟨rfl, hb⟩; replace BK366 := Aside0.mk (blk_below (g := gb366) blkz hb); replace BK367 := Aside0.mk (blk_below (g := gb367) blkz hb); replace HB := Aside0.mk (below_step bel hb); clear hb; obtain ⟨hcz34_0, hcz34_1, hcz34_2⟩ := bc3 BK366.out; obtain ⟨hcz35_0, hcz35_1, hcz35_2, hcz35_3, hcz35_4⟩ := bc5 BK367.out) | (go_at_call 6; (with_reducible refine (dropperref05_Good.calls k a0_0 _ _ l0_1 _ _ l0_2 a1_0 _ _ l1_2 true _ (cbz HR0_1) HC0_1.out (cbz HR0_2) HC0_2.out (cbz HR1_2) HC1_2.out A25.out).mono ?_); rintro e w36 ⟨rfl, hb⟩; replace BK366 := Aside0.mk (blk_below (g := gb366) blkz hb); replace BK367 := Aside0.mk (blk_below (g := gb367) blkz hb); replace HB := Aside0.mk (below_step bel hb); clear hb; obtain ⟨hcz37_0, hcz37_1, hcz37_2⟩ := bc3 BK366.out; obtain ⟨hcz38_0, hcz38_1, hcz38_2, hcz38_3, hcz38_4⟩ := bc5 BK367.out) | (go_at_call 7; (with_reducible refine (dropperref05_IsState.calls a0_0 _ _ l0_1 _ _ l0_2 a1_1 t371 _ (cbz HR0_1) HC0_1.out (cbz HR0_2) HC0_2.out A27.out).mono ?_); rintro e w39 ⟨rfl, hb⟩; replace BK366 := Aside0.mk (blk_below (g := gb366) blkz hb); replace BK367 := Aside0.mk (blk_below (g := gb367) blkz hb); replace HB := Aside0.mk (below_step bel hb); clear hb)); try go_wp2_with (first | (go_at_call 4; (with_reducible refine (dropperref05_Valid.calls k a0_0 _ _ l0_1 _ _ l0_2 true _ (cbz HR0_1) HC0_1.out (cbz HR0_2) HC0_2.out A6.out).mono ?_); rintro e w30 ⟨rfl, hb⟩; replace BK366 := Aside0.mk (blk_below (g := gb366) blkz hb); replace BK367 := Aside0.mk (blk_below (g := gb367) blkz hb); replace HB := Aside0.mk (below_step bel hb); clear hb; obtain ⟨hcz31_0, hcz31_1, hcz31_2, hcz31_3, hcz31_4⟩ := bc5 BK367.out; obtain ⟨hcz32_0, hcz32_1, hcz32_2⟩ := bc3 BK366.out) | (go_at_call 5; (with_reducible refine (dropperref05_IsKeep.calls k a0_0 _ _ l0_1 _ _ l0_2 _ _ l1_2 true _ (cbz HR0_1) HC0_1.out (cbz HR0_2) HC0_2.out (cbz HR1_2) HC1_2.out A23.out).mono ?_); rintro e w33 ⟨rfl, hb⟩; replace BK366 := Aside0.mk (blk_below (g := gb366) blkz hb); replace BK367 := Aside0.mk (blk_below (g := gb367) blkz hb); replace HB := Aside0.mk (below_step bel hb); clear hb; obtain ⟨hcz34_0, hcz34_1, hcz34_2⟩ := bc3 BK366.out; obtain ⟨hcz35_0, hcz35_1, hcz35_2, hcz35_3, hcz35_4⟩ := bc5 BK367.out) | (go_at_call 6; (with_reducible refine (dropperref05_Good.calls k a0_0 _ _ l0_1 _ _ l0_2 a1_0 _ _ l1_2 true _ (cbz HR0_1) HC0_1.out (cbz HR0_2) HC0_2.out (cbz HR1_2) HC1_2.out A25.out).mono ?_); rintro e w36 ⟨rfl, hb⟩; replace BK366 := Aside0.mk (blk_below (g := gb366) blkz hb); replace BK367 := Aside0.mk (blk_below (g := gb367) blkz hb); replace HB := Aside0.mk (below_step bel hb); clear hb; obtain ⟨hcz37_0, hcz37_1, hcz37_2⟩ := bc3 BK366.out; obtain ⟨hcz38_0, hcz38_1, hcz38_2, hcz38_3, hcz38_4⟩ := bc5 BK367.out) | (go_at_call 7; (with_reducible refine (dropperref05_IsState.calls a0_0 _ _ l0_1 _ _ l0_2 a1_1 t371 _ (cbz HR0_1) HC0_1.out (cbz HR0_2) HC0_2.out A27.out).mono ?_); rintro e w39 ⟨rfl, hb⟩; replace BK366 := Aside0.mk (blk_below (g := gb366) blkz hb); replace BK367 := Aside0.mk (blk_below (g := gb367) blkz hb); replace HB := Aside0.mk (below_step bel hb); clear hb)))
        go_meet
        case rel => exact ⟨_, (!t371), rsz, H', ⟨by first | omega | exact Nat.le_refl _⟩, ⟨blkz⟩, ⟨blkz⟩, ⟨bel⟩⟩
       ·
        replace c26 := Bool.eq_false_iff.mpr c26
        subst c26
        rw [if_neg (show ¬ (false = true) by decide)] at H
        have H' := Aside0.mk H
        clear H
        have hnb40 := NB366_367.out
        have hnc40 := NB367_366.out
        obtain ⟨hcz41_0, hcz41_1, hcz41_2⟩ := bc3 BK366.out
        obtain ⟨hfz41_0, hfz41_1, hfz41_2⟩ := bf3 BK366.out
        go_wp2_with (first | (go_at_call 4; (with_reducible refine (dropperref05_Valid.calls k a0_0 _ _ l0_1 _ _ l0_2 true _ (cbz HR0_1) HC0_1.out (cbz HR0_2) HC0_2.out A6.out).mono ?_); rintro e w42 ⟨rfl, hb⟩; replace BK366 := Aside0.mk (blk_below (g := gb366) blkz hb); replace BK367 := Aside0.mk (blk_below (g := gb367) blkz hb); replace HB := Aside0.mk (below_step bel hb); clear hb; obtain ⟨hcz43_0, hcz43_1, hcz43_2, hcz43_3, hcz43_4⟩ := bc5 BK367.out; obtain ⟨hcz44_0, hcz44_1, hcz44_2⟩ := bc3 BK366.out) | (go_at_call 5; (with_reducible refine (dropperref05_IsKeep.calls k a0_0 _ _ l0_1 _ _ l0_2 _ _ l1_2 true _ (cbz HR0_1) HC0_1.out (cbz HR0_2) HC0_2.out (cbz HR1_2) HC1_2.out A23.out).mono ?_); rintro e w45 ⟨rfl, hb⟩; replace BK366 := Aside0.mk (blk_below (g := gb366) blkz hb); replace BK367 := Aside0.mk (blk_below (g := gb367) blkz hb); replace HB := Aside0.mk (below_step bel hb); clear hb; obtain ⟨hcz46_0, hcz46_1, hcz46_2⟩ := bc3 BK366.out; obtain ⟨hcz47_0, hcz47_1, hcz47_2, hcz47_3, hcz47_4⟩ := bc5 BK367.out) | (go_at_call 6; (with_reducible refine (dropperref05_Good.calls k a0_0 _ _ l0_1 _ _ l0_2 a1_0 _ _ l1_2 false _ (cbz HR0_1) HC0_1.out (cbz HR0_2) HC0_2.out (cbz HR1_2) HC1_2.out A25.out).mono ?_); rintro e w48 ⟨rfl, hb⟩; replace BK366 := Aside0.mk (blk_below (g := gb366) blkz hb); replace BK367 := Aside0.mk (blk_below (g := gb367) blkz hb); replace HB := Aside0.mk (below_step bel hb); clear hb))
        repeat (go_quiet (first | (go_at_call 4; (with_reducible refine (dropperref05_Valid.calls k a0_0 _ _ l0_1 _ _ l0_2 true _ (cbz HR0_1) HC0_1.out (cbz HR0_2) HC0_2.out A6.out).mono ?_); rintro e w42 ⟨rfl, hb⟩; replace BK366 := Aside0.mk (blk_below (g := gb366) blkz hb); replace BK367 := Aside0.mk (blk_below (g := gb367) blkz hb); replace HB := Aside0.mk (below_step bel hb); clear hb; obtain ⟨hcz43_0, hcz43_1, hcz43_2, hcz43_3, hcz43_4⟩ := bc5 BK367.out; obtain ⟨hcz44_0, hcz44_1, hcz44_2⟩ := bc3 BK366.out) | (go_at_call 5; (with_reducible refine (dropperref05_IsKeep.calls k a0_0 _ _ l0_1 _ _ l0_2 _ _ l1_2 true _ (cbz HR0_1) HC0_1.out (cbz HR0_2) HC0_2.out (cbz HR1_2) HC1_2.out A23.out).mono ?_); rintro e w45 ⟨rfl, hb⟩; replace BK366 := Aside0.mk (blk_below (g := gb366) blkz hb); replace BK367 := Aside0.mk (blk_below (g := gb367) blkz hb); replace HB := Aside0.mk (below_step bel hb); clear hb; obtain ⟨hcz46_0, hcz46_1, hcz46_2⟩ := bc3 BK366.out; obtain ⟨hcz47_0, hcz47_1, hcz47_2, hcz47_3, hcz47_4⟩ := bc5 BK367.out) | (go_at_call 6; (with_reducible refine (dropperref05_Good.calls k a0_0 _ _ l0_1 _ _ l0_2 a1_0 _ _ l1_2 false _ (cbz HR0_1) HC0_1.out (cbz HR0_2) HC0_2.out (cbz HR1_2) HC1_2.out A25.out).mono ?_); rintro e w48 ⟨rfl, hb⟩; replace BK366 := Aside0.mk (blk_below (g := gb366) blkz hb); replace BK367 := Aside0.mk (blk_below (g := gb367) blkz hb); replace HB := Aside0.mk (below_step bel hb); clear hb)); try go_wp2_with (first | (go_at_call 4; (with_reducible refine (dropperref05_Valid.calls k a0_0 _ _ l0_1 _ _ l0_2 true _ (cbz HR0_1) HC0_1.out (cbz HR0_2) HC0_2.out A6.out).mono ?_); rintro e w42 ⟨rfl, hb⟩; replace BK366 := Aside0.mk (blk_below (g := gb366) blkz hb); replace BK367 := Aside0.mk (blk_below (g := gb367) blkz hb); replace HB := Aside0.mk (below_step bel hb); clear hb; obtain ⟨hcz43_0, hcz43_1, hcz43_2, hcz43_3, hcz43_4⟩ := bc5 BK367.out; obtain ⟨hcz44_0, hcz44_1, hcz44_2⟩ := bc3 BK366.out) | (go_at_call 5; (with_reducible refine (dropperref05_IsKeep.calls k a0_0 _ _ l0_1 _ _ l0_2 _ _ l1_2 true _ (cbz HR0_1) HC0_1.out (cbz HR0_2) HC0_2.out (cbz HR1_2) HC1_2.out A23.out).mono ?_); rintro e w45 ⟨rfl, hb⟩; replace BK366 := Aside0.mk (blk_below (g := gb366) blkz hb); replace BK367 := Aside0.mk (blk_below (g := gb367) blkz hb); replace HB := Aside0.mk (below_step bel hb); clear hb; obtain ⟨hcz46_0, hcz46_1, hcz46_2⟩ := bc3 BK366.out; obtain ⟨hcz47_0, hcz47_1, hcz47_2, hcz47_3, hcz47_4⟩ := bc5 BK367.out) | (go_at_call 6; (with_reducible refine (dropperref05_Good.calls k a0_0 _ _ l0_1 _ _ l0_2 a1_0 _ _ l1_2 false _ (cbz HR0_1) HC0_1.out (cbz HR0_2) HC0_2.out (cbz HR1_2) HC1_2.out A25.out).mono ?_); rintro e w48 ⟨rfl, hb⟩; replace BK366 := Aside0.mk (blk_below (g := gb366) blkz hb); replace BK367 := Aside0.mk (blk_below (g := gb367) blkz hb); replace HB := Aside0.mk (below_step bel hb); clear hb)))
        go_meet
        case rel => exact ⟨_, (true), rsz, H', ⟨by first | omega | exact Nat.le_refl _⟩, ⟨blkz⟩, ⟨blkz⟩, ⟨bel⟩⟩
      ·
       replace c24 := Bool.eq_false_iff.mpr c24
       subst c24
       rw [if_neg (show ¬ (false = true) by decide)] at H
       have H' := Aside0.mk H
       clear H
       have hnb49 := NB366_367.out
       have hnc49 := NB367_366.out
       obtain ⟨hcz50_0, hcz50_1, hcz50_2⟩ := bc3 BK366.out
       obtain ⟨hfz50_0, hfz50_1, hfz50_2⟩ := bf3 BK366.out
       go_wp2_with (first | (go_at_call 4; (with_reducible refine (dropperref05_Valid.calls k a0_0 _ _ l0_1 _ _ l0_2 true _ (cbz HR0_1) HC0_1.out (cbz HR0_2) HC0_2.out A6.out).mono ?_); rintro e w51 ⟨rfl, hb⟩; replace BK366 := Aside0.mk (blk_below (g := gb366) blkz hb); replace BK367 := Aside0.mk (blk_below (g := gb367) blkz hb); replace HB := Aside0.mk (below_step bel hb); clear hb; obtain ⟨hcz52_0, hcz52_1, hcz52_2, hcz52_3, hcz52_4⟩ := bc5 BK367.out; obtain ⟨hcz53_0, hcz53_1, hcz53_2⟩ := bc3 BK366.out) | (go_at_call 5; (with_reducible refine (dropperref05_IsKeep.calls k a0_0 _ _ l0_1 _ _ l0_2 _ _ l1_2 false _ (cbz HR0_1) HC0_1.out (cbz HR0_2) HC0_2.out (cbz HR1_2) HC1_2.out A23.out).mono ?_); rintro e w54 ⟨rfl, hb⟩; replace BK366 := Aside0.mk (blk_below (g := gb366) blkz hb); replace BK367 := Aside0.mk (blk_below (g := gb367) blkz hb); replace HB := Aside0.mk (below_step bel hb); clear hb))
       repeat (go_quiet (first | (go_at_call 4; (with_reducible refine (dropperref05_Valid.calls k a0_0 _ _ l0_1 _ _ l0_2 true _ (cbz HR0_1) HC0_1.out (cbz HR0_2) HC0_2.out A6.out).mono ?_); rintro e w51 ⟨rfl, hb⟩; replace BK366 := Aside0.mk (blk_below (g := gb366) blkz hb); replace BK367 := Aside0.mk (blk_below (g := gb367) blkz hb); replace HB := Aside0.mk (below_step bel hb); clear hb; obtain ⟨hcz52_0, hcz52_1, hcz52_2, hcz52_3, hcz52_4⟩ := bc5 BK367.out; obtain ⟨hcz53_0, hcz53_1, hcz53_2⟩ := bc3 BK366.out) | (go_at_call 5; (with_reducible refine (dropperref05_IsKeep.calls k a0_0 _ _ l0_1 _ _ l0_2 _ _ l1_2 false _ (cbz HR0_1) HC0_1.out (cbz HR0_2) HC0_2.out (cbz HR1_2) HC1_2.out A23.out).mono ?_); rintro e w54 ⟨rfl, hb⟩; replace BK366 := Aside0.mk (blk_below (g := gb366) blkz hb); replace BK367 := Aside0.mk (blk_below (g := gb367) blkz hb); replace HB := Aside0.mk (below_step bel hb); clear hb)); try go_wp2_with (first | (go_at_call 4; (with_reducible refine (dropperref05_Valid.calls k a0_0 _ _ l0_1 _ _ l0_2 true _ (cbz HR0_1) HC0_1.out (cbz HR0_2) HC0_2.out A6.out).mono ?_); rintro e w51 ⟨rfl, hb⟩; replace BK366 := Aside0.mk (blk_below (g := gb366) blkz hb); replace BK367 := Aside0.mk (blk_below (g := gb367) blkz hb); replace HB := Aside0.mk (below_step bel hb); clear hb; obtain ⟨hcz52_0, hcz52_1, hcz52_2, hcz52_3, hcz52_4⟩ := bc5 BK367.out; obtain ⟨hcz53_0, hcz53_1, hcz53_2⟩ := bc3 BK366.out) | (go_at_call 5; (with_reducible refine (dropperref05_IsKeep.calls k a0_0 _ _ l0_1 _ _ l0_2 _ _ l1_2 false _ (cbz HR0_1) HC0_1.out (cbz HR0_2) HC0_2.out (cbz HR1_2) HC1_2.out A23.out).mono ?_); rintro e w54 ⟨rfl, hb⟩; replace BK366 := Aside0.mk (blk_below (g := gb366) blkz hb); replace BK367 := Aside0.mk (blk_below (g := gb367) blkz hb); replace HB := Aside0.mk (below_step bel hb); clear hb)))
       go_meet
       case rel => exact ⟨_, (true), rsz, H', ⟨by first | omega | exact Nat.le_refl _⟩, ⟨blkz⟩, ⟨blkz⟩, ⟨bel⟩⟩
  ·
   replace c7 := Bool.eq_false_iff.mpr c7
   subst c7
   rw [if_neg (show ¬ (false = true) by decide)] at H
   have H' := Aside0.mk H
   clear H
   have hnb55 := NB366_367.out
   have hnc55 := NB367_366.out
   obtain ⟨hcz56_0, hcz56_1, hcz56_2⟩ := bc3 BK366.out
   obtain ⟨hfz56_0, hfz56_1, hfz56_2⟩ := bf3 BK366.out
   go_wp2_with (first | (go_at_call 4; (with_reducible refine (dropperref05_Valid.calls k a0_0 _ _ l0_1 _ _ l0_2 false _ (cbz HR0_1) HC0_1.out (cbz HR0_2) HC0_2.out A6.out).mono ?_); rintro e w57 ⟨rfl, hb⟩; replace BK366 := Aside0.mk (blk_below (g := gb366) blkz hb); replace BK367 := Aside0.mk (blk_below (g := gb367) blkz hb); replace HB := Aside0.mk (below_step bel hb); clear hb))
   repeat (go_quiet (first | (go_at_call 4; (with_reducible refine (dropperref05_Valid.calls k a0_0 _ _ l0_1 _ _ l0_2 false _ (cbz HR0_1) HC0_1.out (cbz HR0_2) HC0_2.out A6.out).mono ?_); rintro e w57 ⟨rfl, hb⟩; replace BK366 := Aside0.mk (blk_below (g := gb366) blkz hb); replace BK367 := Aside0.mk (blk_below (g := gb367) blkz hb); replace HB := Aside0.mk (below_step bel hb); clear hb)); try go_wp2_with (first | (go_at_call 4; (with_reducible refine (dropperref05_Valid.calls k a0_0 _ _ l0_1 _ _ l0_2 false _ (cbz HR0_1) HC0_1.out (cbz HR0_2) HC0_2.out A6.out).mono ?_); rintro e w57 ⟨rfl, hb⟩; replace BK366 := Aside0.mk (blk_below (g := gb366) blkz hb); replace BK367 := Aside0.mk (blk_below (g := gb367) blkz hb); replace HB := Aside0.mk (below_step bel hb); clear hb)))
   go_meet
   case rel => exact ⟨_, (true), rsz, H', ⟨by first | omega | exact Nat.le_refl _⟩, ⟨blkz⟩, ⟨blkz⟩, ⟨bel⟩⟩
 case rest =>
  as_aux_lemma =>
   clear HC3
   (try clear c1); (try clear c2); (try clear p2); (try clear c3); (try clear c4); (try clear c5); (try clear c7); (try clear c8); (try clear c8b0); (try clear c8b1); (try clear c9); (try clear c13); (try clear c13b0); (try clear c13b1); (try clear c14); (try clear c18); (try clear c18b0); (try clear c18b1); (try clear c19); (try clear c24); (try clear c26); (try clear c28); (try clear c40); (try clear c49); (try clear c55); (try clear hcz10_0); (try clear hcz10_1); (try clear hcz10_2); (try clear hcz12_0); (try clear hcz12_1); (try clear hcz12_2); (try clear hcz12_3); (try clear hcz12_4); (try clear hcz15_0); (try clear hcz15_1); (try clear hcz15_2); (try clear hcz17_0); (try clear hcz17_1); (try clear hcz17_2); (try clear hcz17_3); (try clear hcz17_4); (try clear hcz20_0); (try clear hcz20_1); (try clear hcz20_2); (try clear hcz22_0); (try clear hcz22_1); (try clear hcz22_2); (try clear hcz22_3); (try clear hcz22_4); (try clear hcz29_0); (try clear hcz29_1); (try clear hcz29_2); (try clear hcz31_0); (try clear hcz31_1); (try clear hcz31_2); (try clear hcz31_3); (try clear hcz31_4); (try clear hcz32_0); (try clear hcz32_1); (try clear hcz32_2); (try clear hcz34_0); (try clear hcz34_1); (try clear hcz34_2); (try clear hcz35_0); (try clear hcz35_1); (try clear hcz35_2); (try clear hcz35_3); (try clear hcz35_4); (try clear hcz37_0); (try clear hcz37_1); (try clear hcz37_2); (try clear hcz38_0); (try clear hcz38_1); (try clear hcz38_2); (try clear hcz38_3); (try clear hcz38_4); (try clear hcz41_0); (try clear hcz41_1); (try clear hcz41_2); (try clear hcz43_0); (try clear hcz43_1); (try clear hcz43_2); (try clear hcz43_3); (try clear hcz43_4); (try clear hcz44_0); (try clear hcz44_1); (try clear hcz44_2); (try clear hcz46_0); (try clear hcz46_1); (try clear hcz46_2); (try clear hcz47_0); (try clear hcz47_1); (try clear hcz47_2); (try clear hcz47_3); (try clear hcz47_4); (try clear hcz50_0); (try clear hcz50_1); (try clear hcz50_2); (try clear hcz52_0); (try clear hcz52_1); (try clear hcz52_2); (try clear hcz52_3); (try clear hcz52_4); (try clear hcz53_0); (try clear hcz53_1); (try clear hcz53_2); (try clear hcz56_0); (try clear hcz56_1); (try clear hcz56_2); (try clear hfz10_0); (try clear hfz10_1); (try clear hfz10_2); (try clear hfz12_0); (try clear hfz12_1); (try clear hfz12_2); (try clear hfz12_3); (try clear hfz12_4); (try clear hfz15_0); (try clear hfz15_1); (try clear hfz15_2); (try clear hfz17_0); (try clear hfz17_1); (try clear hfz17_2); (try clear hfz17_3); (try clear hfz17_4); (try clear hfz20_0); (try clear hfz20_1); (try clear hfz20_2); (try clear hfz22_0); (try clear hfz22_1); (try clear hfz22_2); (try clear hfz22_3); (try clear hfz22_4); (try clear hfz29_0); (try clear hfz29_1); (try clear hfz29_2); (try clear hfz31_0); (try clear hfz31_1); (try clear hfz31_2); (try clear hfz31_3); (try clear hfz31_4); (try clear hfz32_0); (try clear hfz32_1); (try clear hfz32_2); (try clear hfz34_0); (try clear hfz34_1); (try clear hfz34_2); (try clear hfz35_0); (try clear hfz35_1); (try clear hfz35_2); (try clear hfz35_3); (try clear hfz35_4); (try clear hfz37_0); (try clear hfz37_1); (try clear hfz37_2); (try clear hfz38_0); (try clear hfz38_1); (try clear hfz38_2); (try clear hfz38_3); (try clear hfz38_4); (try clear hfz41_0); (try clear hfz41_1); (try clear hfz41_2); (try clear hfz43_0); (try clear hfz43_1); (try clear hfz43_2); (try clear hfz43_3); (try clear hfz43_4); (try clear hfz44_0); (try clear hfz44_1); (try clear hfz44_2); (try clear hfz46_0); (try clear hfz46_1); (try clear hfz46_2); (try clear hfz47_0); (try clear hfz47_1); (try clear hfz47_2); (try clear hfz47_3); (try clear hfz47_4); (try clear hfz50_0); (try clear hfz50_1); (try clear hfz50_2); (try clear hfz52_0); (try clear hfz52_1); (try clear hfz52_2); (try clear hfz52_3); (try clear hfz52_4); (try clear hfz53_0); (try clear hfz53_1); (try clear hfz53_2); (try clear hfz56_0); (try clear hfz56_1); (try clear hfz56_2)
   obtain ⟨kq, x58_2, rfl, HA, HJ2, BK366, BK367, HB⟩ := hcut
   cases kq with
   | zero => exact absurd HA.out (by simp [droppertop_TopOrder.j0])
   | succ kj2 =>
    have H := HA.out
    clear HA
    simp only [droppertop_TopOrder.j0] at H
    by_cases c58 : x58_2 = true
    ·
     subst c58
     rw [if_pos rfl] at H
     replace H := Option.bind_eq_some_iff.mp H
     obtain ⟨t372, A590, H⟩ := H
     try dsimp only at H
     have A59 := Aside0.mk A590
     clear A590
     obtain rfl := Option.some.inj H
     go_wp2_with (first | (go_at_call 8; (with_reducible refine (dropperlaw05_First.calls kj2  t372 _ (tbz HT) A59.out).mono ?_); rintro e w60 ⟨rfl, hb⟩; replace BK366 := Aside0.mk (blk_below (g := gb366) blkz hb); replace BK367 := Aside0.mk (blk_below (g := gb367) blkz hb); replace HB := Aside0.mk (below_step bel hb); clear hb))
     repeat (go_quiet (first | (go_at_call 8; (with_reducible refine (dropperlaw05_First.calls kj2  t372 _ (tbz HT) A59.out).mono ?_); rintro e w60 ⟨rfl, hb⟩; replace BK366 := Aside0.mk (blk_below (g := gb366) blkz hb); replace BK367 := Aside0.mk (blk_below (g := gb367) blkz hb); replace HB := Aside0.mk (below_step bel hb); clear hb)); try go_wp2_with (first | (go_at_call 8; (with_reducible refine (dropperlaw05_First.calls kj2  t372 _ (tbz HT) A59.out).mono ?_); rintro e w60 ⟨rfl, hb⟩; replace BK366 := Aside0.mk (blk_below (g := gb366) blkz hb); replace BK367 := Aside0.mk (blk_below (g := gb367) blkz hb); replace HB := Aside0.mk (below_step bel hb); clear hb)))
     go_ret
     exact ⟨ezz, bel⟩
    ·
     replace c58 := Bool.eq_false_iff.mpr c58
     subst c58
     rw [if_neg (show ¬ (false = true) by decide)] at H
     replace H := Option.bind_eq_some_iff.mp H
     obtain ⟨⟨t373, t376⟩, A610, H⟩ := H
     try dsimp only at H
     have A61 := Aside0.mk A610
     clear A610
     replace H := Option.bind_eq_some_iff.mp H
     obtain ⟨⟨t377, t380⟩, A620, H⟩ := H
     try dsimp only at H
     have A62 := Aside0.mk A620
     clear A620
     replace H := Option.bind_eq_some_iff.mp H
     obtain ⟨⟨t381, t382⟩, A630, H⟩ := H
     try dsimp only at H
     have A63 := Aside0.mk A630
     clear A630
     have HC64 := Aside0.mk H
     clear H
     have hnb65 := NB366_367.out
     have hnc65 := NB367_366.out
     obtain ⟨hcz66_0, hcz66_1, hcz66_2⟩ := bc3 BK366.out
     obtain ⟨hfz66_0, hfz66_1, hfz66_2⟩ := bf3 BK366.out
     obtain ⟨hcz67_0, hcz67_1, hcz67_2, hcz67_3, hcz67_4⟩ := bc5 BK367.out
     obtain ⟨hfz67_0, hfz67_1, hfz67_2, hfz67_3, hfz67_4⟩ := bf5 BK367.out
     go_upto_region 6 with (first | (go_at_call 9; (with_reducible refine (feed_Reach.calls kj2 a0_0 _ _ l0_1 _ _ l0_2 a1_0 _ _ l1_2 t373 t376 _ (cbz HR0_1) HC0_1.out (cbz HR0_2) HC0_2.out (cbz HR1_2) HC1_2.out (tbz HT) A61.out).mono ?_); rintro e w68 ⟨v374, rfl, ho0, hb⟩; have HO375 := Aside0.mk (Kd.R_lower ho0 (below_size bel)); replace BK366 := Aside0.mk (blk_below (g := gb366) blkz hb); replace BK367 := Aside0.mk (blk_below (g := gb367) blkz hb); replace HB := Aside0.mk (below_step bel hb); (try clear hb); (try clear hb2); (try clear hk); (try clear hi); (try clear ho0); obtain ⟨hcz69_0, hcz69_1, hcz69_2⟩ := bc3 BK366.out; obtain ⟨hcz70_0, hcz70_1, hcz70_2, hcz70_3, hcz70_4⟩ := bc5 BK367.out) | (go_at_call 10; (with_reducible refine (feed_Order.calls kj2 a0_0 _ _ l0_1 _ _ l0_2 a1_0 a1_1 _ _ l1_2 t377 t380 _ (cbz HR0_1) HC0_1.out (cbz HR0_2) HC0_2.out (cbz HR1_2) HC1_2.out (tbz HT) A62.out).mono ?_); rintro e w71 ⟨v378, rfl, ho0, hb⟩; have HO379 := Aside0.mk (Kd.R_lower (Kd.R_new' ho0 (Kd.R_lt (ownx HO375))) (below_size bel)); replace HO375 := Aside0.mk (Kd.R_elder' (ownx HO375) (Kd.R_base ho0) hb); replace BK366 := Aside0.mk (blk_below (g := gb366) blkz hb); replace BK367 := Aside0.mk (blk_below (g := gb367) blkz hb); replace HB := Aside0.mk (below_step bel hb); (try clear hb); (try clear hb2); (try clear hk); (try clear hi); (try clear ho0); obtain ⟨hcz72_0, hcz72_1, hcz72_2⟩ := bc3 BK366.out; obtain ⟨hcz73_0, hcz73_1, hcz73_2, hcz73_3, hcz73_4⟩ := bc5 BK367.out; obtain ⟨Ao74, co74, eo74⟩ := Kd.R_slice HO375.out; subst eo74) | (go_at_call 11; (with_reducible refine (feed_IsShut.calls kj2 a0_0 _ _ l0_1 _ _ l0_2 _ _ l1_2 _ _ t373 t381 t382 _ (cbz HR0_1) HC0_1.out (cbz HR0_2) HC0_2.out (cbz HR1_2) HC1_2.out ?side7 ?side8 (tbz HT) A63.out).mono ?_); (case side7 => repeat (first | exact (Kd.R_reads' HO375.out).2.2 | (with_reducible refine Kd.C_alloc ?_ _) | (with_reducible refine Kd.C_drewN ?_ _) | (with_reducible refine Kd.C_drew ?_))); (case side8 => exact (Kd.R_reads' HO375.out).2.1); rintro e w75 ⟨rfl, hb⟩; replace HO375 := Aside0.mk (Kd.R_below (ownx HO375) hb); replace HO379 := Aside0.mk (Kd.R_below (ownx HO379) hb); replace BK366 := Aside0.mk (blk_below (g := gb366) blkz hb); replace BK367 := Aside0.mk (blk_below (g := gb367) blkz hb); replace HB := Aside0.mk (below_step bel hb); clear hb))
     repeat (go_quiet (first | (go_at_call 9; (with_reducible refine (feed_Reach.calls kj2 a0_0 _ _ l0_1 _ _ l0_2 a1_0 _ _ l1_2 t373 t376 _ (cbz HR0_1) HC0_1.out (cbz HR0_2) HC0_2.out (cbz HR1_2) HC1_2.out (tbz HT) A61.out).mono ?_); rintro e w68 ⟨v374, rfl, ho0, hb⟩; have HO375 := Aside0.mk (Kd.R_lower ho0 (below_size bel)); replace BK366 := Aside0.mk (blk_below (g := gb366) blkz hb); replace BK367 := Aside0.mk (blk_below (g := gb367) blkz hb); replace HB := Aside0.mk (below_step bel hb); (try clear hb); (try clear hb2); (try clear hk); (try clear hi); (try clear ho0); obtain ⟨hcz69_0, hcz69_1, hcz69_2⟩ := bc3 BK366.out; obtain ⟨hcz70_0, hcz70_1, hcz70_2, hcz70_3, hcz70_4⟩ := bc5 BK367.out) | (go_at_call 10; (with_reducible refine (feed_Order.calls kj2 a0_0 _ _ l0_1 _ _ l0_2 a1_0 a1_1 _ _ l1_2 t377 t380 _ (cbz HR0_1) HC0_1.out (cbz HR0_2) HC0_2.out (cbz HR1_2) HC1_2.out (tbz HT) A62.out).mono ?_); rintro e w71 ⟨v378, rfl, ho0, hb⟩; have HO379 := Aside0.mk (Kd.R_lower (Kd.R_new' ho0 (Kd.R_lt (ownx HO375))) (below_size bel)); replace HO375 := Aside0.mk (Kd.R_elder' (ownx HO375) (Kd.R_base ho0) hb); replace BK366 := Aside0.mk (blk_below (g := gb366) blkz hb); replace BK367 := Aside0.mk (blk_below (g := gb367) blkz hb); replace HB := Aside0.mk (below_step bel hb); (try clear hb); (try clear hb2); (try clear hk); (try clear hi); (try clear ho0); obtain ⟨hcz72_0, hcz72_1, hcz72_2⟩ := bc3 BK366.out; obtain ⟨hcz73_0, hcz73_1, hcz73_2, hcz73_3, hcz73_4⟩ := bc5 BK367.out; obtain ⟨Ao74, co74, eo74⟩ := Kd.R_slice HO375.out; subst eo74) | (go_at_call 11; (with_reducible refine (feed_IsShut.calls kj2 a0_0 _ _ l0_1 _ _ l0_2 _ _ l1_2 _ _ t373 t381 t382 _ (cbz HR0_1) HC0_1.out (cbz HR0_2) HC0_2.out (cbz HR1_2) HC1_2.out ?side7 ?side8 (tbz HT) A63.out).mono ?_); (case side7 => repeat (first | exact (Kd.R_reads' HO375.out).2.2 | (with_reducible refine Kd.C_alloc ?_ _) | (with_reducible refine Kd.C_drewN ?_ _) | (with_reducible refine Kd.C_drew ?_))); (case side8 => exact (Kd.R_reads' HO375.out).2.1); rintro e w75 ⟨rfl, hb⟩; replace HO375 := Aside0.mk (Kd.R_below (ownx HO375) hb); replace HO379 := Aside0.mk (Kd.R_below (ownx HO379) hb); replace BK366 := Aside0.mk (blk_below (g := gb366) blkz hb); replace BK367 := Aside0.mk (blk_below (g := gb367) blkz hb); replace HB := Aside0.mk (below_step bel hb); clear hb)); go_upto_region 6 with (first | (go_at_call 9; (with_reducible refine (feed_Reach.calls kj2 a0_0 _ _ l0_1 _ _ l0_2 a1_0 _ _ l1_2 t373 t376 _ (cbz HR0_1) HC0_1.out (cbz HR0_2) HC0_2.out (cbz HR1_2) HC1_2.out (tbz HT) A61.out).mono ?_); rintro e w68 ⟨v374, rfl, ho0, hb⟩; have HO375 := Aside0.mk (Kd.R_lower ho0 (below_size bel)); replace BK366 := Aside0.mk (blk_below (g := gb366) blkz hb); replace BK367 := Aside0.mk (blk_below (g := gb367) blkz hb); replace HB := Aside0.mk (below_step bel hb); (try clear hb); (try clear hb2); (try clear hk); (try clear hi); (try clear ho0); obtain ⟨hcz69_0, hcz69_1, hcz69_2⟩ := bc3 BK366.out; obtain ⟨hcz70_0, hcz70_1, hcz70_2, hcz70_3, hcz70_4⟩ := bc5 BK367.out) | (go_at_call 10; (with_reducible refine (feed_Order.calls kj2 a0_0 _ _ l0_1 _ _ l0_2 a1_0 a1_1 _ _ l1_2 t377 t380 _ (cbz HR0_1) HC0_1.out (cbz HR0_2) HC0_2.out (cbz HR1_2) HC1_2.out (tbz HT) A62.out).mono ?_); rintro e w71 ⟨v378, rfl, ho0, hb⟩; have HO379 := Aside0.mk (Kd.R_lower (Kd.R_new' ho0 (Kd.R_lt (ownx HO375))) (below_size bel)); replace HO375 := Aside0.mk (Kd.R_elder' (ownx HO375) (Kd.R_base ho0) hb); replace BK366 := Aside0.mk (blk_below (g := gb366) blkz hb); replace BK367 := Aside0.mk (blk_below (g := gb367) blkz hb); replace HB := Aside0.mk (below_step bel hb); (try clear hb); (try clear hb2); (try clear hk); (try clear hi); (try clear ho0); obtain ⟨hcz72_0, hcz72_1, hcz72_2⟩ := bc3 BK366.out; obtain ⟨hcz73_0, hcz73_1, hcz73_2, hcz73_3, hcz73_4⟩ := bc5 BK367.out; obtain ⟨Ao74, co74, eo74⟩ := Kd.R_slice HO375.out; subst eo74) | (go_at_call 11; (with_reducible refine (feed_IsShut.calls kj2 a0_0 _ _ l0_1 _ _ l0_2 _ _ l1_2 _ _ t373 t381 t382 _ (cbz HR0_1) HC0_1.out (cbz HR0_2) HC0_2.out (cbz HR1_2) HC1_2.out ?side7 ?side8 (tbz HT) A63.out).mono ?_); (case side7 => repeat (first | exact (Kd.R_reads' HO375.out).2.2 | (with_reducible refine Kd.C_alloc ?_ _) | (with_reducible refine Kd.C_drewN ?_ _) | (with_reducible refine Kd.C_drew ?_))); (case side8 => exact (Kd.R_reads' HO375.out).2.1); rintro e w75 ⟨rfl, hb⟩; replace HO375 := Aside0.mk (Kd.R_below (ownx HO375) hb); replace HO379 := Aside0.mk (Kd.R_below (ownx HO379) hb); replace BK366 := Aside0.mk (blk_below (g := gb366) blkz hb); replace BK367 := Aside0.mk (blk_below (g := gb367) blkz hb); replace HB := Aside0.mk (below_step bel hb); clear hb)))
     (try simp only [Act.put, List.setIfInBounds_toArray, List.set_cons_zero, List.set_cons_succ])
     go_cut [121] (fun v121 wc => ∃ (kq : Nat) (x121_63 : Bool), v121 = .bool x121_63 ∧ Aside0 (droppertop_TopOrder.j1 kq t373 t377 t380 x121_63 a0_0 l0_1 l0_2 a1_0 a1_1 l1_2 l1_3 l1_4 = some r) ∧ Aside0 (kq ≤ kj2) ∧ Aside0 (Kd.R (Kd.int .i64) 3 wc w.heap.size (fun k_ => some k_ ≠ (v378 : Value).ownBlock) (.slice Ao74 t373.length co74) t373) ∧ Aside0 (Kd.R (Kd.int .i64) 3 wc w.heap.size (fun k_ => some k_ ≠ ((.slice Ao74 t373.length co74) : Value).ownBlock) v378 t377) ∧ Aside0 (wc.heap[gb366]? = some (.cells #[.int .i64 a0_0, (.slice A0_1 l0_1.length c0_1), (.slice A0_2 l0_2.length c0_2)] 25 (0, 0))) ∧ Aside0 (wc.heap[gb367]? = some (.cells #[.int .i64 a1_0, .int .i64 a1_1, (.slice A1_2 l1_2.length c1_2), (.slice A1_3 l1_3.length c1_3), (.slice A1_4 l1_4.length c1_4)] 28 (0, 0))) ∧ Aside0 (Below w.heap.size w wc))
     case first =>
      have H := HC64.out
      clear HC64
      by_cases c76 : t376 = 0
      ·
       rw [if_pos c76] at H
       have c76b0 : (t376 == 0) = true := beq_iff_eq.mpr c76
       have c76b1 : (t376 != 0) = false := bne_eq_false_iff_eq.mpr c76
       clear c76
       (first | rw [c76b0] | (simp only [i64_w, i32_w]; rw [c76b0]) | skip)
       by_cases c77 : t380 = 0
       ·
        rw [if_pos c77] at H
        have c77b0 : (t380 == 0) = true := beq_iff_eq.mpr c77
        have c77b1 : (t380 != 0) = false := bne_eq_false_iff_eq.mpr c77
        clear c77
        by_cases c78 : t382 = 0
        ·
         rw [if_pos c78] at H
         have c78b0 : (t382 == 0) = true := beq_iff_eq.mpr c78
         have c78b1 : (t382 != 0) = false := bne_eq_false_iff_eq.mpr c78
         clear c78
         by_cases c79 : t381 = true
         ·
          subst c79
          rw [if_pos rfl] at H
          replace H := Option.bind_eq_some_iff.mp H
          obtain ⟨t383, A800, H⟩ := H
          try dsimp only at H
          have A80 := Aside0.mk A800
          clear A800
          by_cases c81 : t383 = true
          ·
           subst c81
           rw [if_pos rfl] at H
           replace H := Option.bind_eq_some_iff.mp H
           obtain ⟨t384, A820, H⟩ := H
           try dsimp only at H
           have A82 := Aside0.mk A820
           clear A820
           have H' := Aside0.mk H
           clear H
           have hnb83 := NB367_366.out
           have hnc83 := NB366_367.out
           obtain ⟨hcz84_0, hcz84_1, hcz84_2, hcz84_3, hcz84_4⟩ := bc5 BK367.out
           obtain ⟨hfz84_0, hfz84_1, hfz84_2, hfz84_3, hfz84_4⟩ := bf5 BK367.out
           go_wp2_with (first | (go_at_call 12; (with_reducible refine (droppertop_holds.calls kj2 _ _ t373 a1_0 true _ ?side1 ?side2 A80.out).mono ?_); (case side1 => repeat (first | exact (Kd.R_reads' HO375.out).2.2 | (with_reducible refine Kd.C_alloc ?_ _) | (with_reducible refine Kd.C_drewN ?_ _) | (with_reducible refine Kd.C_drew ?_))); (case side2 => exact (Kd.R_reads' HO375.out).2.1); rintro e w' ⟨rfl, ⟨nd, rfl⟩⟩; (try first | exact ⟨rfl, _, World.drewN_drewN _ _ _⟩ | exact ⟨rfl, _, Eq.trans (World.drewN_drewN _ _ _) (congrArg (World.drewN _) (Nat.add_assoc _ _ _))⟩)) | (go_at_call 12; (with_reducible refine (droppertop_holds.calls kj2 _ _ t373 a1_1 t384 _ ?side1 ?side2 A82.out).mono ?_); (case side1 => repeat (first | exact (Kd.R_reads' HO375.out).2.2 | (with_reducible refine Kd.C_alloc ?_ _) | (with_reducible refine Kd.C_drewN ?_ _) | (with_reducible refine Kd.C_drew ?_))); (case side2 => exact (Kd.R_reads' HO375.out).2.1); rintro e w' ⟨rfl, ⟨nd, rfl⟩⟩; (try first | exact ⟨rfl, _, World.drewN_drewN _ _ _⟩ | exact ⟨rfl, _, Eq.trans (World.drewN_drewN _ _ _) (congrArg (World.drewN _) (Nat.add_assoc _ _ _))⟩)))
           repeat (go_quiet (first | (go_at_call 12; (with_reducible refine (droppertop_holds.calls kj2 _ _ t373 a1_0 true _ ?side1 ?side2 A80.out).mono ?_); (case side1 => repeat (first | exact (Kd.R_reads' HO375.out).2.2 | (with_reducible refine Kd.C_alloc ?_ _) | (with_reducible refine Kd.C_drewN ?_ _) | (with_reducible refine Kd.C_drew ?_))); (case side2 => exact (Kd.R_reads' HO375.out).2.1); rintro e w' ⟨rfl, ⟨nd, rfl⟩⟩; (try first | exact ⟨rfl, _, World.drewN_drewN _ _ _⟩ | exact ⟨rfl, _, Eq.trans (World.drewN_drewN _ _ _) (congrArg (World.drewN _) (Nat.add_assoc _ _ _))⟩)) | (go_at_call 12; (with_reducible refine (droppertop_holds.calls kj2 _ _ t373 a1_1 t384 _ ?side1 ?side2 A82.out).mono ?_); (case side1 => repeat (first | exact (Kd.R_reads' HO375.out).2.2 | (with_reducible refine Kd.C_alloc ?_ _) | (with_reducible refine Kd.C_drewN ?_ _) | (with_reducible refine Kd.C_drew ?_))); (case side2 => exact (Kd.R_reads' HO375.out).2.1); rintro e w' ⟨rfl, ⟨nd, rfl⟩⟩; (try first | exact ⟨rfl, _, World.drewN_drewN _ _ _⟩ | exact ⟨rfl, _, Eq.trans (World.drewN_drewN _ _ _) (congrArg (World.drewN _) (Nat.add_assoc _ _ _))⟩))); try go_wp2_with (first | (go_at_call 12; (with_reducible refine (droppertop_holds.calls kj2 _ _ t373 a1_0 true _ ?side1 ?side2 A80.out).mono ?_); (case side1 => repeat (first | exact (Kd.R_reads' HO375.out).2.2 | (with_reducible refine Kd.C_alloc ?_ _) | (with_reducible refine Kd.C_drewN ?_ _) | (with_reducible refine Kd.C_drew ?_))); (case side2 => exact (Kd.R_reads' HO375.out).2.1); rintro e w' ⟨rfl, ⟨nd, rfl⟩⟩; (try first | exact ⟨rfl, _, World.drewN_drewN _ _ _⟩ | exact ⟨rfl, _, Eq.trans (World.drewN_drewN _ _ _) (congrArg (World.drewN _) (Nat.add_assoc _ _ _))⟩)) | (go_at_call 12; (with_reducible refine (droppertop_holds.calls kj2 _ _ t373 a1_1 t384 _ ?side1 ?side2 A82.out).mono ?_); (case side1 => repeat (first | exact (Kd.R_reads' HO375.out).2.2 | (with_reducible refine Kd.C_alloc ?_ _) | (with_reducible refine Kd.C_drewN ?_ _) | (with_reducible refine Kd.C_drew ?_))); (case side2 => exact (Kd.R_reads' HO375.out).2.1); rintro e w' ⟨rfl, ⟨nd, rfl⟩⟩; (try first | exact ⟨rfl, _, World.drewN_drewN _ _ _⟩ | exact ⟨rfl, _, Eq.trans (World.drewN_drewN _ _ _) (congrArg (World.drewN _) (Nat.add_assoc _ _ _))⟩))))
           go_meet
           case rel => exact ⟨_, (((t380 == 0) != t384)), rsz, H', ⟨by have := HJ2.out; first | omega | exact Nat.le_refl _⟩, ⟨by (with_reducible repeat (first | apply Kd.R_alloc | apply Kd.R_drewN | apply Kd.R_drew)); exact Kd.R_mono HO375.out (fun _ hk => hk.2)⟩, ⟨by (with_reducible repeat (first | apply Kd.R_alloc | apply Kd.R_drewN | apply Kd.R_drew)); exact Kd.R_mono HO379.out (fun _ hk => hk.2)⟩, ⟨blkz⟩, ⟨blkz⟩, ⟨bel⟩⟩
          ·
           replace c81 := Bool.eq_false_iff.mpr c81
           subst c81
           rw [if_neg (show ¬ (false = true) by decide)] at H
           have H' := Aside0.mk H
           clear H
           have hnb85 := NB367_366.out
           have hnc85 := NB366_367.out
           obtain ⟨hcz86_0, hcz86_1, hcz86_2, hcz86_3, hcz86_4⟩ := bc5 BK367.out
           obtain ⟨hfz86_0, hfz86_1, hfz86_2, hfz86_3, hfz86_4⟩ := bf5 BK367.out
           go_wp2_with (first | (go_at_call 12; (with_reducible refine (droppertop_holds.calls kj2 _ _ t373 a1_0 false _ ?side1 ?side2 A80.out).mono ?_); (case side1 => repeat (first | exact (Kd.R_reads' HO375.out).2.2 | (with_reducible refine Kd.C_alloc ?_ _) | (with_reducible refine Kd.C_drewN ?_ _) | (with_reducible refine Kd.C_drew ?_))); (case side2 => exact (Kd.R_reads' HO375.out).2.1); rintro e w' ⟨rfl, ⟨nd, rfl⟩⟩; (try first | exact ⟨rfl, _, World.drewN_drewN _ _ _⟩ | exact ⟨rfl, _, Eq.trans (World.drewN_drewN _ _ _) (congrArg (World.drewN _) (Nat.add_assoc _ _ _))⟩)))
           repeat (go_quiet (first | (go_at_call 12; (with_reducible refine (droppertop_holds.calls kj2 _ _ t373 a1_0 false _ ?side1 ?side2 A80.out).mono ?_); (case side1 => repeat (first | exact (Kd.R_reads' HO375.out).2.2 | (with_reducible refine Kd.C_alloc ?_ _) | (with_reducible refine Kd.C_drewN ?_ _) | (with_reducible refine Kd.C_drew ?_))); (case side2 => exact (Kd.R_reads' HO375.out).2.1); rintro e w' ⟨rfl, ⟨nd, rfl⟩⟩; (try first | exact ⟨rfl, _, World.drewN_drewN _ _ _⟩ | exact ⟨rfl, _, Eq.trans (World.drewN_drewN _ _ _) (congrArg (World.drewN _) (Nat.add_assoc _ _ _))⟩))); try go_wp2_with (first | (go_at_call 12; (with_reducible refine (droppertop_holds.calls kj2 _ _ t373 a1_0 false _ ?side1 ?side2 A80.out).mono ?_); (case side1 => repeat (first | exact (Kd.R_reads' HO375.out).2.2 | (with_reducible refine Kd.C_alloc ?_ _) | (with_reducible refine Kd.C_drewN ?_ _) | (with_reducible refine Kd.C_drew ?_))); (case side2 => exact (Kd.R_reads' HO375.out).2.1); rintro e w' ⟨rfl, ⟨nd, rfl⟩⟩; (try first | exact ⟨rfl, _, World.drewN_drewN _ _ _⟩ | exact ⟨rfl, _, Eq.trans (World.drewN_drewN _ _ _) (congrArg (World.drewN _) (Nat.add_assoc _ _ _))⟩))))
           go_meet
           case rel => exact ⟨_, (true), rsz, H', ⟨by have := HJ2.out; first | omega | exact Nat.le_refl _⟩, ⟨by (with_reducible repeat (first | apply Kd.R_alloc | apply Kd.R_drewN | apply Kd.R_drew)); exact Kd.R_mono HO375.out (fun _ hk => hk.2)⟩, ⟨by (with_reducible repeat (first | apply Kd.R_alloc | apply Kd.R_drewN | apply Kd.R_drew)); exact Kd.R_mono HO379.out (fun _ hk => hk.2)⟩, ⟨blkz⟩, ⟨blkz⟩, ⟨bel⟩⟩
         ·
          replace c79 := Bool.eq_false_iff.mpr c79
          subst c79
          rw [if_neg (show ¬ (false = true) by decide)] at H
          have H' := Aside0.mk H
          clear H
          go_wp2
          repeat (go_quiet (fail); try go_wp2)
          go_meet
          case rel => exact ⟨_, (true), rsz, H', ⟨by have := HJ2.out; first | omega | exact Nat.le_refl _⟩, ⟨by (with_reducible repeat (first | apply Kd.R_alloc | apply Kd.R_drewN | apply Kd.R_drew)); exact Kd.R_mono HO375.out (fun _ hk => hk.2)⟩, ⟨by (with_reducible repeat (first | apply Kd.R_alloc | apply Kd.R_drewN | apply Kd.R_drew)); exact Kd.R_mono HO379.out (fun _ hk => hk.2)⟩, ⟨blkz⟩, ⟨blkz⟩, ⟨bel⟩⟩
        ·
         rw [if_neg c78] at H
         have c78b0 : (t382 == 0) = false := beq_eq_false_iff_ne.mpr c78
         have c78b1 : (t382 != 0) = true := bne_iff_ne.mpr c78
         have H' := Aside0.mk H
         clear H
         go_wp2
         repeat (go_quiet (fail); try go_wp2)
         go_meet
         case rel => exact ⟨_, (true), rsz, H', ⟨by have := HJ2.out; first | omega | exact Nat.le_refl _⟩, ⟨by (with_reducible repeat (first | apply Kd.R_alloc | apply Kd.R_drewN | apply Kd.R_drew)); exact Kd.R_mono HO375.out (fun _ hk => hk.2)⟩, ⟨by (with_reducible repeat (first | apply Kd.R_alloc | apply Kd.R_drewN | apply Kd.R_drew)); exact Kd.R_mono HO379.out (fun _ hk => hk.2)⟩, ⟨blkz⟩, ⟨blkz⟩, ⟨bel⟩⟩
       ·
        rw [if_neg c77] at H
        have c77b0 : (t380 == 0) = false := beq_eq_false_iff_ne.mpr c77
        have c77b1 : (t380 != 0) = true := bne_iff_ne.mpr c77
        by_cases c87 : t380 = 5
        ·
         rw [if_pos c87] at H
         have c87b0 : (t380 == 5) = true := beq_iff_eq.mpr c87
         have c87b1 : (t380 != 5) = false := bne_eq_false_iff_eq.mpr c87
         clear c87
         by_cases c88 : t382 = 0
         ·
          rw [if_pos c88] at H
          have c88b0 : (t382 == 0) = true := beq_iff_eq.mpr c88
          have c88b1 : (t382 != 0) = false := bne_eq_false_iff_eq.mpr c88
          clear c88
          by_cases c89 : t381 = true
          ·
           subst c89
           rw [if_pos rfl] at H
           replace H := Option.bind_eq_some_iff.mp H
           obtain ⟨t385, A900, H⟩ := H
           try dsimp only at H
           have A90 := Aside0.mk A900
           clear A900
           by_cases c91 : t385 = true
           ·
            subst c91
            rw [if_pos rfl] at H
            replace H := Option.bind_eq_some_iff.mp H
            obtain ⟨t386, A920, H⟩ := H
            try dsimp only at H
            have A92 := Aside0.mk A920
            clear A920
            have H' := Aside0.mk H
            clear H
            have hnb93 := NB367_366.out
            have hnc93 := NB366_367.out
            obtain ⟨hcz94_0, hcz94_1, hcz94_2, hcz94_3, hcz94_4⟩ := bc5 BK367.out
            obtain ⟨hfz94_0, hfz94_1, hfz94_2, hfz94_3, hfz94_4⟩ := bf5 BK367.out
            go_wp2_with (first | (go_at_call 12; (with_reducible refine (droppertop_holds.calls kj2 _ _ t373 a1_0 true _ ?side1 ?side2 A90.out).mono ?_); (case side1 => repeat (first | exact (Kd.R_reads' HO375.out).2.2 | (with_reducible refine Kd.C_alloc ?_ _) | (with_reducible refine Kd.C_drewN ?_ _) | (with_reducible refine Kd.C_drew ?_))); (case side2 => exact (Kd.R_reads' HO375.out).2.1); rintro e w' ⟨rfl, ⟨nd, rfl⟩⟩; (try first | exact ⟨rfl, _, World.drewN_drewN _ _ _⟩ | exact ⟨rfl, _, Eq.trans (World.drewN_drewN _ _ _) (congrArg (World.drewN _) (Nat.add_assoc _ _ _))⟩)) | (go_at_call 12; (with_reducible refine (droppertop_holds.calls kj2 _ _ t373 a1_1 t386 _ ?side1 ?side2 A92.out).mono ?_); (case side1 => repeat (first | exact (Kd.R_reads' HO375.out).2.2 | (with_reducible refine Kd.C_alloc ?_ _) | (with_reducible refine Kd.C_drewN ?_ _) | (with_reducible refine Kd.C_drew ?_))); (case side2 => exact (Kd.R_reads' HO375.out).2.1); rintro e w' ⟨rfl, ⟨nd, rfl⟩⟩; (try first | exact ⟨rfl, _, World.drewN_drewN _ _ _⟩ | exact ⟨rfl, _, Eq.trans (World.drewN_drewN _ _ _) (congrArg (World.drewN _) (Nat.add_assoc _ _ _))⟩)))
            repeat (go_quiet (first | (go_at_call 12; (with_reducible refine (droppertop_holds.calls kj2 _ _ t373 a1_0 true _ ?side1 ?side2 A90.out).mono ?_); (case side1 => repeat (first | exact (Kd.R_reads' HO375.out).2.2 | (with_reducible refine Kd.C_alloc ?_ _) | (with_reducible refine Kd.C_drewN ?_ _) | (with_reducible refine Kd.C_drew ?_))); (case side2 => exact (Kd.R_reads' HO375.out).2.1); rintro e w' ⟨rfl, ⟨nd, rfl⟩⟩; (try first | exact ⟨rfl, _, World.drewN_drewN _ _ _⟩ | exact ⟨rfl, _, Eq.trans (World.drewN_drewN _ _ _) (congrArg (World.drewN _) (Nat.add_assoc _ _ _))⟩)) | (go_at_call 12; (with_reducible refine (droppertop_holds.calls kj2 _ _ t373 a1_1 t386 _ ?side1 ?side2 A92.out).mono ?_); (case side1 => repeat (first | exact (Kd.R_reads' HO375.out).2.2 | (with_reducible refine Kd.C_alloc ?_ _) | (with_reducible refine Kd.C_drewN ?_ _) | (with_reducible refine Kd.C_drew ?_))); (case side2 => exact (Kd.R_reads' HO375.out).2.1); rintro e w' ⟨rfl, ⟨nd, rfl⟩⟩; (try first | exact ⟨rfl, _, World.drewN_drewN _ _ _⟩ | exact ⟨rfl, _, Eq.trans (World.drewN_drewN _ _ _) (congrArg (World.drewN _) (Nat.add_assoc _ _ _))⟩))); try go_wp2_with (first | (go_at_call 12; (with_reducible refine (droppertop_holds.calls kj2 _ _ t373 a1_0 true _ ?side1 ?side2 A90.out).mono ?_); (case side1 => repeat (first | exact (Kd.R_reads' HO375.out).2.2 | (with_reducible refine Kd.C_alloc ?_ _) | (with_reducible refine Kd.C_drewN ?_ _) | (with_reducible refine Kd.C_drew ?_))); (case side2 => exact (Kd.R_reads' HO375.out).2.1); rintro e w' ⟨rfl, ⟨nd, rfl⟩⟩; (try first | exact ⟨rfl, _, World.drewN_drewN _ _ _⟩ | exact ⟨rfl, _, Eq.trans (World.drewN_drewN _ _ _) (congrArg (World.drewN _) (Nat.add_assoc _ _ _))⟩)) | (go_at_call 12; (with_reducible refine (droppertop_holds.calls kj2 _ _ t373 a1_1 t386 _ ?side1 ?side2 A92.out).mono ?_); (case side1 => repeat (first | exact (Kd.R_reads' HO375.out).2.2 | (with_reducible refine Kd.C_alloc ?_ _) | (with_reducible refine Kd.C_drewN ?_ _) | (with_reducible refine Kd.C_drew ?_))); (case side2 => exact (Kd.R_reads' HO375.out).2.1); rintro e w' ⟨rfl, ⟨nd, rfl⟩⟩; (try first | exact ⟨rfl, _, World.drewN_drewN _ _ _⟩ | exact ⟨rfl, _, Eq.trans (World.drewN_drewN _ _ _) (congrArg (World.drewN _) (Nat.add_assoc _ _ _))⟩))))
            go_meet
            case rel => exact ⟨_, (((t380 == 0) != t386)), rsz, H', ⟨by have := HJ2.out; first | omega | exact Nat.le_refl _⟩, ⟨by (with_reducible repeat (first | apply Kd.R_alloc | apply Kd.R_drewN | apply Kd.R_drew)); exact Kd.R_mono HO375.out (fun _ hk => hk.2)⟩, ⟨by (with_reducible repeat (first | apply Kd.R_alloc | apply Kd.R_drewN | apply Kd.R_drew)); exact Kd.R_mono HO379.out (fun _ hk => hk.2)⟩, ⟨blkz⟩, ⟨blkz⟩, ⟨bel⟩⟩
           ·
            replace c91 := Bool.eq_false_iff.mpr c91
            subst c91
            rw [if_neg (show ¬ (false = true) by decide)] at H
            have H' := Aside0.mk H
            clear H
            have hnb95 := NB367_366.out
            have hnc95 := NB366_367.out
            obtain ⟨hcz96_0, hcz96_1, hcz96_2, hcz96_3, hcz96_4⟩ := bc5 BK367.out
            obtain ⟨hfz96_0, hfz96_1, hfz96_2, hfz96_3, hfz96_4⟩ := bf5 BK367.out
            go_wp2_with (first | (go_at_call 12; (with_reducible refine (droppertop_holds.calls kj2 _ _ t373 a1_0 false _ ?side1 ?side2 A90.out).mono ?_); (case side1 => repeat (first | exact (Kd.R_reads' HO375.out).2.2 | (with_reducible refine Kd.C_alloc ?_ _) | (with_reducible refine Kd.C_drewN ?_ _) | (with_reducible refine Kd.C_drew ?_))); (case side2 => exact (Kd.R_reads' HO375.out).2.1); rintro e w' ⟨rfl, ⟨nd, rfl⟩⟩; (try first | exact ⟨rfl, _, World.drewN_drewN _ _ _⟩ | exact ⟨rfl, _, Eq.trans (World.drewN_drewN _ _ _) (congrArg (World.drewN _) (Nat.add_assoc _ _ _))⟩)))
            repeat (go_quiet (first | (go_at_call 12; (with_reducible refine (droppertop_holds.calls kj2 _ _ t373 a1_0 false _ ?side1 ?side2 A90.out).mono ?_); (case side1 => repeat (first | exact (Kd.R_reads' HO375.out).2.2 | (with_reducible refine Kd.C_alloc ?_ _) | (with_reducible refine Kd.C_drewN ?_ _) | (with_reducible refine Kd.C_drew ?_))); (case side2 => exact (Kd.R_reads' HO375.out).2.1); rintro e w' ⟨rfl, ⟨nd, rfl⟩⟩; (try first | exact ⟨rfl, _, World.drewN_drewN _ _ _⟩ | exact ⟨rfl, _, Eq.trans (World.drewN_drewN _ _ _) (congrArg (World.drewN _) (Nat.add_assoc _ _ _))⟩))); try go_wp2_with (first | (go_at_call 12; (with_reducible refine (droppertop_holds.calls kj2 _ _ t373 a1_0 false _ ?side1 ?side2 A90.out).mono ?_); (case side1 => repeat (first | exact (Kd.R_reads' HO375.out).2.2 | (with_reducible refine Kd.C_alloc ?_ _) | (with_reducible refine Kd.C_drewN ?_ _) | (with_reducible refine Kd.C_drew ?_))); (case side2 => exact (Kd.R_reads' HO375.out).2.1); rintro e w' ⟨rfl, ⟨nd, rfl⟩⟩; (try first | exact ⟨rfl, _, World.drewN_drewN _ _ _⟩ | exact ⟨rfl, _, Eq.trans (World.drewN_drewN _ _ _) (congrArg (World.drewN _) (Nat.add_assoc _ _ _))⟩))))
            go_meet
            case rel => exact ⟨_, (true), rsz, H', ⟨by have := HJ2.out; first | omega | exact Nat.le_refl _⟩, ⟨by (with_reducible repeat (first | apply Kd.R_alloc | apply Kd.R_drewN | apply Kd.R_drew)); exact Kd.R_mono HO375.out (fun _ hk => hk.2)⟩, ⟨by (with_reducible repeat (first | apply Kd.R_alloc | apply Kd.R_drewN | apply Kd.R_drew)); exact Kd.R_mono HO379.out (fun _ hk => hk.2)⟩, ⟨blkz⟩, ⟨blkz⟩, ⟨bel⟩⟩
          ·
           replace c89 := Bool.eq_false_iff.mpr c89
           subst c89
           rw [if_neg (show ¬ (false = true) by decide)] at H
           have H' := Aside0.mk H
           clear H
           go_wp2
           repeat (go_quiet (fail); try go_wp2)
           go_meet
           case rel => exact ⟨_, (true), rsz, H', ⟨by have := HJ2.out; first | omega | exact Nat.le_refl _⟩, ⟨by (with_reducible repeat (first | apply Kd.R_alloc | apply Kd.R_drewN | apply Kd.R_drew)); exact Kd.R_mono HO375.out (fun _ hk => hk.2)⟩, ⟨by (with_reducible repeat (first | apply Kd.R_alloc | apply Kd.R_drewN | apply Kd.R_drew)); exact Kd.R_mono HO379.out (fun _ hk => hk.2)⟩, ⟨blkz⟩, ⟨blkz⟩, ⟨bel⟩⟩
         ·
          rw [if_neg c88] at H
          have c88b0 : (t382 == 0) = false := beq_eq_false_iff_ne.mpr c88
          have c88b1 : (t382 != 0) = true := bne_iff_ne.mpr c88
          have H' := Aside0.mk H
          clear H
          go_wp2
          repeat (go_quiet (fail); try go_wp2)
          go_meet
          case rel => exact ⟨_, (true), rsz, H', ⟨by have := HJ2.out; first | omega | exact Nat.le_refl _⟩, ⟨by (with_reducible repeat (first | apply Kd.R_alloc | apply Kd.R_drewN | apply Kd.R_drew)); exact Kd.R_mono HO375.out (fun _ hk => hk.2)⟩, ⟨by (with_reducible repeat (first | apply Kd.R_alloc | apply Kd.R_drewN | apply Kd.R_drew)); exact Kd.R_mono HO379.out (fun _ hk => hk.2)⟩, ⟨blkz⟩, ⟨blkz⟩, ⟨bel⟩⟩
        ·
         rw [if_neg c87] at H
         have c87b0 : (t380 == 5) = false := beq_eq_false_iff_ne.mpr c87
         have c87b1 : (t380 != 5) = true := bne_iff_ne.mpr c87
         have H' := Aside0.mk H
         clear H
         go_wp2
         repeat (go_quiet (fail); try go_wp2)
         go_meet
         case rel => exact ⟨_, (true), rsz, H', ⟨by have := HJ2.out; first | omega | exact Nat.le_refl _⟩, ⟨by (with_reducible repeat (first | apply Kd.R_alloc | apply Kd.R_drewN | apply Kd.R_drew)); exact Kd.R_mono HO375.out (fun _ hk => hk.2)⟩, ⟨by (with_reducible repeat (first | apply Kd.R_alloc | apply Kd.R_drewN | apply Kd.R_drew)); exact Kd.R_mono HO379.out (fun _ hk => hk.2)⟩, ⟨blkz⟩, ⟨blkz⟩, ⟨bel⟩⟩
      ·
       rw [if_neg c76] at H
       have c76b0 : (t376 == 0) = false := beq_eq_false_iff_ne.mpr c76
       have c76b1 : (t376 != 0) = true := bne_iff_ne.mpr c76
       (first | rw [c76b0] | (simp only [i64_w, i32_w]; rw [c76b0]) | skip)
       have H' := Aside0.mk H
       clear H
       go_wp2
       repeat (go_quiet (fail); try go_wp2)
       go_meet
       case rel => exact ⟨_, (true), rsz, H', ⟨by have := HJ2.out; first | omega | exact Nat.le_refl _⟩, ⟨by (with_reducible repeat (first | apply Kd.R_alloc | apply Kd.R_drewN | apply Kd.R_drew)); exact Kd.R_mono HO375.out (fun _ hk => hk.2)⟩, ⟨by (with_reducible repeat (first | apply Kd.R_alloc | apply Kd.R_drewN | apply Kd.R_drew)); exact Kd.R_mono HO379.out (fun _ hk => hk.2)⟩, ⟨blkz⟩, ⟨blkz⟩, ⟨bel⟩⟩
     case rest =>
      as_aux_lemma =>
       clear HC64
       (try clear c1); (try clear c2); (try clear p2); (try clear c3); (try clear c4); (try clear c5); (try clear c6); (try clear c7); (try clear c8); (try clear c8b0); (try clear c8b1); (try clear c9); (try clear c13); (try clear c13b0); (try clear c13b1); (try clear c14); (try clear c18); (try clear c18b0); (try clear c18b1); (try clear c19); (try clear c24); (try clear c26); (try clear c28); (try clear c40); (try clear c49); (try clear c55); (try clear c58); (try clear c65); (try clear c76); (try clear c76b0); (try clear c76b1); (try clear c77); (try clear c77b0); (try clear c77b1); (try clear c78); (try clear c78b0); (try clear c78b1); (try clear c79); (try clear c81); (try clear c83); (try clear c85); (try clear c87); (try clear c87b0); (try clear c87b1); (try clear c88); (try clear c88b0); (try clear c88b1); (try clear c89); (try clear c91); (try clear c93); (try clear c95); (try clear hcz10_0); (try clear hcz10_1); (try clear hcz10_2); (try clear hcz12_0); (try clear hcz12_1); (try clear hcz12_2); (try clear hcz12_3); (try clear hcz12_4); (try clear hcz15_0); (try clear hcz15_1); (try clear hcz15_2); (try clear hcz17_0); (try clear hcz17_1); (try clear hcz17_2); (try clear hcz17_3); (try clear hcz17_4); (try clear hcz20_0); (try clear hcz20_1); (try clear hcz20_2); (try clear hcz22_0); (try clear hcz22_1); (try clear hcz22_2); (try clear hcz22_3); (try clear hcz22_4); (try clear hcz29_0); (try clear hcz29_1); (try clear hcz29_2); (try clear hcz31_0); (try clear hcz31_1); (try clear hcz31_2); (try clear hcz31_3); (try clear hcz31_4); (try clear hcz32_0); (try clear hcz32_1); (try clear hcz32_2); (try clear hcz34_0); (try clear hcz34_1); (try clear hcz34_2); (try clear hcz35_0); (try clear hcz35_1); (try clear hcz35_2); (try clear hcz35_3); (try clear hcz35_4); (try clear hcz37_0); (try clear hcz37_1); (try clear hcz37_2); (try clear hcz38_0); (try clear hcz38_1); (try clear hcz38_2); (try clear hcz38_3); (try clear hcz38_4); (try clear hcz41_0); (try clear hcz41_1); (try clear hcz41_2); (try clear hcz43_0); (try clear hcz43_1); (try clear hcz43_2); (try clear hcz43_3); (try clear hcz43_4); (try clear hcz44_0); (try clear hcz44_1); (try clear hcz44_2); (try clear hcz46_0); (try clear hcz46_1); (try clear hcz46_2); (try clear hcz47_0); (try clear hcz47_1); (try clear hcz47_2); (try clear hcz47_3); (try clear hcz47_4); (try clear hcz50_0); (try clear hcz50_1); (try clear hcz50_2); (try clear hcz52_0); (try clear hcz52_1); (try clear hcz52_2); (try clear hcz52_3); (try clear hcz52_4); (try clear hcz53_0); (try clear hcz53_1); (try clear hcz53_2); (try clear hcz56_0); (try clear hcz56_1); (try clear hcz56_2); (try clear hcz66_0); (try clear hcz66_1); (try clear hcz66_2); (try clear hcz67_0); (try clear hcz67_1); (try clear hcz67_2); (try clear hcz67_3); (try clear hcz67_4); (try clear hcz69_0); (try clear hcz69_1); (try clear hcz69_2); (try clear hcz70_0); (try clear hcz70_1); (try clear hcz70_2); (try clear hcz70_3); (try clear hcz70_4); (try clear hcz72_0); (try clear hcz72_1); (try clear hcz72_2); (try clear hcz73_0); (try clear hcz73_1); (try clear hcz73_2); (try clear hcz73_3); (try clear hcz73_4); (try clear hcz84_0); (try clear hcz84_1); (try clear hcz84_2); (try clear hcz84_3); (try clear hcz84_4); (try clear hcz86_0); (try clear hcz86_1); (try clear hcz86_2); (try clear hcz86_3); (try clear hcz86_4); (try clear hcz94_0); (try clear hcz94_1); (try clear hcz94_2); (try clear hcz94_3); (try clear hcz94_4); (try clear hcz96_0); (try clear hcz96_1); (try clear hcz96_2); (try clear hcz96_3); (try clear hcz96_4); (try clear hfz10_0); (try clear hfz10_1); (try clear hfz10_2); (try clear hfz12_0); (try clear hfz12_1); (try clear hfz12_2); (try clear hfz12_3); (try clear hfz12_4); (try clear hfz15_0); (try clear hfz15_1); (try clear hfz15_2); (try clear hfz17_0); (try clear hfz17_1); (try clear hfz17_2); (try clear hfz17_3); (try clear hfz17_4); (try clear hfz20_0); (try clear hfz20_1); (try clear hfz20_2); (try clear hfz22_0); (try clear hfz22_1); (try clear hfz22_2); (try clear hfz22_3); (try clear hfz22_4); (try clear hfz29_0); (try clear hfz29_1); (try clear hfz29_2); (try clear hfz31_0); (try clear hfz31_1); (try clear hfz31_2); (try clear hfz31_3); (try clear hfz31_4); (try clear hfz32_0); (try clear hfz32_1); (try clear hfz32_2); (try clear hfz34_0); (try clear hfz34_1); (try clear hfz34_2); (try clear hfz35_0); (try clear hfz35_1); (try clear hfz35_2); (try clear hfz35_3); (try clear hfz35_4); (try clear hfz37_0); (try clear hfz37_1); (try clear hfz37_2); (try clear hfz38_0); (try clear hfz38_1); (try clear hfz38_2); (try clear hfz38_3); (try clear hfz38_4); (try clear hfz41_0); (try clear hfz41_1); (try clear hfz41_2); (try clear hfz43_0); (try clear hfz43_1); (try clear hfz43_2); (try clear hfz43_3); (try clear hfz43_4); (try clear hfz44_0); (try clear hfz44_1); (try clear hfz44_2); (try clear hfz46_0); (try clear hfz46_1); (try clear hfz46_2); (try clear hfz47_0); (try clear hfz47_1); (try clear hfz47_2); (try clear hfz47_3); (try clear hfz47_4); (try clear hfz50_0); (try clear hfz50_1); (try clear hfz50_2); (try clear hfz52_0); (try clear hfz52_1); (try clear hfz52_2); (try clear hfz52_3); (try clear hfz52_4); (try clear hfz53_0); (try clear hfz53_1); (try clear hfz53_2); (try clear hfz56_0); (try clear hfz56_1); (try clear hfz56_2); (try clear hfz66_0); (try clear hfz66_1); (try clear hfz66_2); (try clear hfz67_0); (try clear hfz67_1); (try clear hfz67_2); (try clear hfz67_3); (try clear hfz67_4); (try clear hfz69_0); (try clear hfz69_1); (try clear hfz69_2); (try clear hfz70_0); (try clear hfz70_1); (try clear hfz70_2); (try clear hfz70_3); (try clear hfz70_4); (try clear hfz72_0); (try clear hfz72_1); (try clear hfz72_2); (try clear hfz73_0); (try clear hfz73_1); (try clear hfz73_2); (try clear hfz73_3); (try clear hfz73_4); (try clear hfz84_0); (try clear hfz84_1); (try clear hfz84_2); (try clear hfz84_3); (try clear hfz84_4); (try clear hfz86_0); (try clear hfz86_1); (try clear hfz86_2); (try clear hfz86_3); (try clear hfz86_4); (try clear hfz94_0); (try clear hfz94_1); (try clear hfz94_2); (try clear hfz94_3); (try clear hfz94_4); (try clear hfz96_0); (try clear hfz96_1); (try clear hfz96_2); (try clear hfz96_3); (try clear hfz96_4); (try clear p2)
       obtain ⟨kq, x121_63, rfl, HA, HJ63, HO_5, HO_7, BK366, BK367, HB⟩ := hcut
       cases kq with
       | zero => exact absurd HA.out (by simp [droppertop_TopOrder.j1])
       | succ kj63 =>
        have H := HA.out
        clear HA
        simp only [droppertop_TopOrder.j1] at H
        by_cases c97 : x121_63 = true
        ·
         subst c97
         rw [if_pos rfl] at H
         exact absurd H (by simp)
        ·
         replace c97 := Bool.eq_false_iff.mpr c97
         subst c97
         rw [if_neg (show ¬ (false = true) by decide)] at H
         have HC98 := Aside0.mk H
         clear H
         go_upto_region 8 with (fail)
         repeat (go_quiet (fail); go_upto_region 8 with (fail))
         go_cut [135] (fun v135 wc => ∃ (kq : Nat) (x135_97 : Bool), v135 = .bool x135_97 ∧ Aside0 (droppertop_TopOrder.j2 kq t373 t377 x135_97 a0_0 l0_1 l0_2 a1_0 a1_1 l1_2 l1_3 l1_4 = some r) ∧ Aside0 (kq ≤ kj63) ∧ Aside0 (Kd.R (Kd.int .i64) 3 wc w.heap.size (fun k_ => some k_ ≠ (v378 : Value).ownBlock) (.slice Ao74 t373.length co74) t373) ∧ Aside0 (Kd.R (Kd.int .i64) 3 wc w.heap.size (fun k_ => some k_ ≠ ((.slice Ao74 t373.length co74) : Value).ownBlock) v378 t377) ∧ Aside0 (wc.heap[gb366]? = some (.cells #[.int .i64 a0_0, (.slice A0_1 l0_1.length c0_1), (.slice A0_2 l0_2.length c0_2)] 25 (0, 0))) ∧ Aside0 (wc.heap[gb367]? = some (.cells #[.int .i64 a1_0, .int .i64 a1_1, (.slice A1_2 l1_2.length c1_2), (.slice A1_3 l1_3.length c1_3), (.slice A1_4 l1_4.length c1_4)] 28 (0, 0))) ∧ Aside0 (Below w.heap.size w wc))
         case first =>
          have H := HC98.out
          clear HC98
          by_cases c99 : t380 = 0
          ·
           rw [if_pos c99] at H
           have c99b0 : (t380 == 0) = true := beq_iff_eq.mpr c99
           have c99b1 : (t380 != 0) = false := bne_eq_false_iff_eq.mpr c99
           clear c99
           (first | rw [c99b0] | (simp only [i64_w, i32_w]; rw [c99b0]) | skip)
           replace H := Option.bind_eq_some_iff.mp H
           obtain ⟨t387, A1000, H⟩ := H
           try dsimp only at H
           have A100 := Aside0.mk A1000
           clear A1000
           have H' := Aside0.mk H
           clear H
           have hnb101 := NB366_367.out
           have hnc101 := NB367_366.out
           obtain ⟨hcz102_0, hcz102_1, hcz102_2⟩ := bc3 BK366.out
           obtain ⟨hfz102_0, hfz102_1, hfz102_2⟩ := bf3 BK366.out
           obtain ⟨hcz103_0, hcz103_1, hcz103_2, hcz103_3, hcz103_4⟩ := bc5 BK367.out
           obtain ⟨hfz103_0, hfz103_1, hfz103_2, hfz103_3, hfz103_4⟩ := bf5 BK367.out
           obtain ⟨Ao104, co104, eo104⟩ := Kd.R_slice HO_7.out
           subst eo104
           go_wp2_with (first | (go_at_call 13; (with_reducible refine (droppertop_leads.calls kj63 a0_0 _ _ l0_1 _ _ l0_2 a1_0 a1_1 _ _ l1_2 _ _ t377 t387 _ (cbz HR0_1) HC0_1.out (cbz HR0_2) HC0_2.out (cbz HR1_2) HC1_2.out ?side7 ?side8 (tbz HT) A100.out).mono ?_); (case side7 => repeat (first | exact (Kd.R_reads' HO_7.out).2.2 | (with_reducible refine Kd.C_alloc ?_ _) | (with_reducible refine Kd.C_drewN ?_ _) | (with_reducible refine Kd.C_drew ?_))); (case side8 => exact (Kd.R_reads' HO_7.out).2.1); rintro e w105 ⟨rfl, hb⟩; replace HO_5 := Aside0.mk (Kd.R_below (ownx HO_5) hb); replace HO_7 := Aside0.mk (Kd.R_below (ownx HO_7) hb); replace BK366 := Aside0.mk (blk_below (g := gb366) blkz hb); replace BK367 := Aside0.mk (blk_below (g := gb367) blkz hb); replace HB := Aside0.mk (below_step bel hb); clear hb))
           repeat (go_quiet (first | (go_at_call 13; (with_reducible refine (droppertop_leads.calls kj63 a0_0 _ _ l0_1 _ _ l0_2 a1_0 a1_1 _ _ l1_2 _ _ t377 t387 _ (cbz HR0_1) HC0_1.out (cbz HR0_2) HC0_2.out (cbz HR1_2) HC1_2.out ?side7 ?side8 (tbz HT) A100.out).mono ?_); (case side7 => repeat (first | exact (Kd.R_reads' HO_7.out).2.2 | (with_reducible refine Kd.C_alloc ?_ _) | (with_reducible refine Kd.C_drewN ?_ _) | (with_reducible refine Kd.C_drew ?_))); (case side8 => exact (Kd.R_reads' HO_7.out).2.1); rintro e w105 ⟨rfl, hb⟩; replace HO_5 := Aside0.mk (Kd.R_below (ownx HO_5) hb); replace HO_7 := Aside0.mk (Kd.R_below (ownx HO_7) hb); replace BK366 := Aside0.mk (blk_below (g := gb366) blkz hb); replace BK367 := Aside0.mk (blk_below (g := gb367) blkz hb); replace HB := Aside0.mk (below_step bel hb); clear hb)); try go_wp2_with (first | (go_at_call 13; (with_reducible refine (droppertop_leads.calls kj63 a0_0 _ _ l0_1 _ _ l0_2 a1_0 a1_1 _ _ l1_2 _ _ t377 t387 _ (cbz HR0_1) HC0_1.out (cbz HR0_2) HC0_2.out (cbz HR1_2) HC1_2.out ?side7 ?side8 (tbz HT) A100.out).mono ?_); (case side7 => repeat (first | exact (Kd.R_reads' HO_7.out).2.2 | (with_reducible refine Kd.C_alloc ?_ _) | (with_reducible refine Kd.C_drewN ?_ _) | (with_reducible refine Kd.C_drew ?_))); (case side8 => exact (Kd.R_reads' HO_7.out).2.1); rintro e w105 ⟨rfl, hb⟩; replace HO_5 := Aside0.mk (Kd.R_below (ownx HO_5) hb); replace HO_7 := Aside0.mk (Kd.R_below (ownx HO_7) hb); replace BK366 := Aside0.mk (blk_below (g := gb366) blkz hb); replace BK367 := Aside0.mk (blk_below (g := gb367) blkz hb); replace HB := Aside0.mk (below_step bel hb); clear hb)))
           go_meet
           case rel => exact ⟨_, (!t387), rsz, H', ⟨by have := HJ2.out; have := HJ63.out; first | omega | exact Nat.le_refl _⟩, ⟨by (with_reducible repeat (first | apply Kd.R_alloc | apply Kd.R_drewN | apply Kd.R_drew)); exact HO_5.out⟩, ⟨by (with_reducible repeat (first | apply Kd.R_alloc | apply Kd.R_drewN | apply Kd.R_drew)); exact HO_7.out⟩, ⟨blkz⟩, ⟨blkz⟩, ⟨bel⟩⟩
          ·
           rw [if_neg c99] at H
           have c99b0 : (t380 == 0) = false := beq_eq_false_iff_ne.mpr c99
           have c99b1 : (t380 != 0) = true := bne_iff_ne.mpr c99
           (first | rw [c99b0] | (simp only [i64_w, i32_w]; rw [c99b0]) | skip)
           have H' := Aside0.mk H
           clear H
           go_wp2
           repeat (go_quiet (fail); try go_wp2)
           go_meet
           case rel => exact ⟨_, (false), rsz, H', ⟨by have := HJ2.out; have := HJ63.out; first | omega | exact Nat.le_refl _⟩, ⟨by (with_reducible repeat (first | apply Kd.R_alloc | apply Kd.R_drewN | apply Kd.R_drew)); exact HO_5.out⟩, ⟨by (with_reducible repeat (first | apply Kd.R_alloc | apply Kd.R_drewN | apply Kd.R_drew)); exact HO_7.out⟩, ⟨blkz⟩, ⟨blkz⟩, ⟨bel⟩⟩
         case rest =>
          as_aux_lemma =>
           clear HC98
           (try clear c1); (try clear c2); (try clear p2); (try clear c3); (try clear c4); (try clear c5); (try clear c6); (try clear c7); (try clear c8); (try clear c8b0); (try clear c8b1); (try clear c9); (try clear c10); (try clear c13); (try clear c13b0); (try clear c13b1); (try clear c14); (try clear c18); (try clear c18b0); (try clear c18b1); (try clear c19); (try clear c24); (try clear c26); (try clear c28); (try clear c40); (try clear c49); (try clear c55); (try clear c58); (try clear c65); (try clear c76); (try clear c76b0); (try clear c76b1); (try clear c77); (try clear c77b0); (try clear c77b1); (try clear c78); (try clear c78b0); (try clear c78b1); (try clear c79); (try clear c81); (try clear c83); (try clear c85); (try clear c87); (try clear c87b0); (try clear c87b1); (try clear c88); (try clear c88b0); (try clear c88b1); (try clear c89); (try clear c91); (try clear c93); (try clear c95); (try clear c97); (try clear c99); (try clear c99b0); (try clear c99b1); (try clear c101); (try clear hcz102_0); (try clear hcz102_1); (try clear hcz102_2); (try clear hcz103_0); (try clear hcz103_1); (try clear hcz103_2); (try clear hcz103_3); (try clear hcz103_4); (try clear hcz10_0); (try clear hcz10_1); (try clear hcz10_2); (try clear hcz12_0); (try clear hcz12_1); (try clear hcz12_2); (try clear hcz12_3); (try clear hcz12_4); (try clear hcz15_0); (try clear hcz15_1); (try clear hcz15_2); (try clear hcz17_0); (try clear hcz17_1); (try clear hcz17_2); (try clear hcz17_3); (try clear hcz17_4); (try clear hcz20_0); (try clear hcz20_1); (try clear hcz20_2); (try clear hcz22_0); (try clear hcz22_1); (try clear hcz22_2); (try clear hcz22_3); (try clear hcz22_4); (try clear hcz29_0); (try clear hcz29_1); (try clear hcz29_2); (try clear hcz31_0); (try clear hcz31_1); (try clear hcz31_2); (try clear hcz31_3); (try clear hcz31_4); (try clear hcz32_0); (try clear hcz32_1); (try clear hcz32_2); (try clear hcz34_0); (try clear hcz34_1); (try clear hcz34_2); (try clear hcz35_0); (try clear hcz35_1); (try clear hcz35_2); (try clear hcz35_3); (try clear hcz35_4); (try clear hcz37_0); (try clear hcz37_1); (try clear hcz37_2); (try clear hcz38_0); (try clear hcz38_1); (try clear hcz38_2); (try clear hcz38_3); (try clear hcz38_4); (try clear hcz41_0); (try clear hcz41_1); (try clear hcz41_2); (try clear hcz43_0); (try clear hcz43_1); (try clear hcz43_2); (try clear hcz43_3); (try clear hcz43_4); (try clear hcz44_0); (try clear hcz44_1); (try clear hcz44_2); (try clear hcz46_0); (try clear hcz46_1); (try clear hcz46_2); (try clear hcz47_0); (try clear hcz47_1); (try clear hcz47_2); (try clear hcz47_3); (try clear hcz47_4); (try clear hcz50_0); (try clear hcz50_1); (try clear hcz50_2); (try clear hcz52_0); (try clear hcz52_1); (try clear hcz52_2); (try clear hcz52_3); (try clear hcz52_4); (try clear hcz53_0); (try clear hcz53_1); (try clear hcz53_2); (try clear hcz56_0); (try clear hcz56_1); (try clear hcz56_2); (try clear hcz66_0); (try clear hcz66_1); (try clear hcz66_2); (try clear hcz67_0); (try clear hcz67_1); (try clear hcz67_2); (try clear hcz67_3); (try clear hcz67_4); (try clear hcz69_0); (try clear hcz69_1); (try clear hcz69_2); (try clear hcz70_0); (try clear hcz70_1); (try clear hcz70_2); (try clear hcz70_3); (try clear hcz70_4); (try clear hcz72_0); (try clear hcz72_1); (try clear hcz72_2); (try clear hcz73_0); (try clear hcz73_1); (try clear hcz73_2); (try clear hcz73_3); (try clear hcz73_4); (try clear hcz84_0); (try clear hcz84_1); (try clear hcz84_2); (try clear hcz84_3); (try clear hcz84_4); (try clear hcz86_0); (try clear hcz86_1); (try clear hcz86_2); (try clear hcz86_3); (try clear hcz86_4); (try clear hcz94_0); (try clear hcz94_1); (try clear hcz94_2); (try clear hcz94_3); (try clear hcz94_4); (try clear hcz96_0); (try clear hcz96_1); (try clear hcz96_2); (try clear hcz96_3); (try clear hcz96_4); (try clear hfz102_0); (try clear hfz102_1); (try clear hfz102_2); (try clear hfz103_0); (try clear hfz103_1); (try clear hfz103_2); (try clear hfz103_3); (try clear hfz103_4); (try clear hfz10_0); (try clear hfz10_1); (try clear hfz10_2); (try clear hfz12_0); (try clear hfz12_1); (try clear hfz12_2); (try clear hfz12_3); (try clear hfz12_4); (try clear hfz15_0); (try clear hfz15_1); (try clear hfz15_2); (try clear hfz17_0); (try clear hfz17_1); (try clear hfz17_2); (try clear hfz17_3); (try clear hfz17_4); (try clear hfz20_0); (try clear hfz20_1); (try clear hfz20_2); (try clear hfz22_0); (try clear hfz22_1); (try clear hfz22_2); (try clear hfz22_3); (try clear hfz22_4); (try clear hfz29_0); (try clear hfz29_1); (try clear hfz29_2); (try clear hfz31_0); (try clear hfz31_1); (try clear hfz31_2); (try clear hfz31_3); (try clear hfz31_4); (try clear hfz32_0); (try clear hfz32_1); (try clear hfz32_2); (try clear hfz34_0); (try clear hfz34_1); (try clear hfz34_2); (try clear hfz35_0); (try clear hfz35_1); (try clear hfz35_2); (try clear hfz35_3); (try clear hfz35_4); (try clear hfz37_0); (try clear hfz37_1); (try clear hfz37_2); (try clear hfz38_0); (try clear hfz38_1); (try clear hfz38_2); (try clear hfz38_3); (try clear hfz38_4); (try clear hfz41_0); (try clear hfz41_1); (try clear hfz41_2); (try clear hfz43_0); (try clear hfz43_1); (try clear hfz43_2); (try clear hfz43_3); (try clear hfz43_4); (try clear hfz44_0); (try clear hfz44_1); (try clear hfz44_2); (try clear hfz46_0); (try clear hfz46_1); (try clear hfz46_2); (try clear hfz47_0); (try clear hfz47_1); (try clear hfz47_2); (try clear hfz47_3); (try clear hfz47_4); (try clear hfz50_0); (try clear hfz50_1); (try clear hfz50_2); (try clear hfz52_0); (try clear hfz52_1); (try clear hfz52_2); (try clear hfz52_3); (try clear hfz52_4); (try clear hfz53_0); (try clear hfz53_1); (try clear hfz53_2); (try clear hfz56_0); (try clear hfz56_1); (try clear hfz56_2); (try clear hfz66_0); (try clear hfz66_1); (try clear hfz66_2); (try clear hfz67_0); (try clear hfz67_1); (try clear hfz67_2); (try clear hfz67_3); (try clear hfz67_4); (try clear hfz69_0); (try clear hfz69_1); (try clear hfz69_2); (try clear hfz70_0); (try clear hfz70_1); (try clear hfz70_2); (try clear hfz70_3); (try clear hfz70_4); (try clear hfz72_0); (try clear hfz72_1); (try clear hfz72_2); (try clear hfz73_0); (try clear hfz73_1); (try clear hfz73_2); (try clear hfz73_3); (try clear hfz73_4); (try clear hfz84_0); (try clear hfz84_1); (try clear hfz84_2); (try clear hfz84_3); (try clear hfz84_4); (try clear hfz86_0); (try clear hfz86_1); (try clear hfz86_2); (try clear hfz86_3); (try clear hfz86_4); (try clear hfz94_0); (try clear hfz94_1); (try clear hfz94_2); (try clear hfz94_3); (try clear hfz94_4); (try clear hfz96_0); (try clear hfz96_1); (try clear hfz96_2); (try clear hfz96_3); (try clear hfz96_4); (try clear p2)
           obtain ⟨kq, x135_97, rfl, HA, HJ97, HO_5, HO_7, BK366, BK367, HB⟩ := hcut
           cases kq with
           | zero => exact absurd HA.out (by simp [droppertop_TopOrder.j2])
           | succ kj97 =>
            have H := HA.out
            clear HA
            simp only [droppertop_TopOrder.j2] at H
            by_cases c106 : x135_97 = true
            ·
             subst c106
             rw [if_pos rfl] at H
             exact absurd H (by simp)
            ·
             replace c106 := Bool.eq_false_iff.mpr c106
             subst c106
             rw [if_neg (show ¬ (false = true) by decide)] at H
             replace H := Option.bind_eq_some_iff.mp H
             obtain ⟨⟨t388, t389⟩, A1070, H⟩ := H
             try dsimp only at H
             have A107 := Aside0.mk A1070
             clear A1070
             have HC108 := Aside0.mk H
             clear H
             have hnb109 := NB366_367.out
             have hnc109 := NB367_366.out
             obtain ⟨hcz110_0, hcz110_1, hcz110_2⟩ := bc3 BK366.out
             obtain ⟨hfz110_0, hfz110_1, hfz110_2⟩ := bf3 BK366.out
             obtain ⟨hcz111_0, hcz111_1, hcz111_2, hcz111_3, hcz111_4⟩ := bc5 BK367.out
             obtain ⟨hfz111_0, hfz111_1, hfz111_2, hfz111_3, hfz111_4⟩ := bf5 BK367.out
             go_upto_region 11 with (first | (go_at_call 14; (with_reducible refine (dropperref05_IsOrder.calls kj97 a0_0 _ _ l0_1 _ _ l0_2 a1_0 _ _ l1_2 _ _ l1_3 t388 t389 _ (cbz HR0_1) HC0_1.out (cbz HR0_2) HC0_2.out (cbz HR1_2) HC1_2.out (cbz HR1_3) HC1_3.out A107.out).mono ?_); rintro e w112 ⟨rfl, hb⟩; replace HO_5 := Aside0.mk (Kd.R_below (ownx HO_5) hb); replace HO_7 := Aside0.mk (Kd.R_below (ownx HO_7) hb); replace BK366 := Aside0.mk (blk_below (g := gb366) blkz hb); replace BK367 := Aside0.mk (blk_below (g := gb367) blkz hb); replace HB := Aside0.mk (below_step bel hb); clear hb))
             repeat (go_quiet (first | (go_at_call 14; (with_reducible refine (dropperref05_IsOrder.calls kj97 a0_0 _ _ l0_1 _ _ l0_2 a1_0 _ _ l1_2 _ _ l1_3 t388 t389 _ (cbz HR0_1) HC0_1.out (cbz HR0_2) HC0_2.out (cbz HR1_2) HC1_2.out (cbz HR1_3) HC1_3.out A107.out).mono ?_); rintro e w112 ⟨rfl, hb⟩; replace HO_5 := Aside0.mk (Kd.R_below (ownx HO_5) hb); replace HO_7 := Aside0.mk (Kd.R_below (ownx HO_7) hb); replace BK366 := Aside0.mk (blk_below (g := gb366) blkz hb); replace BK367 := Aside0.mk (blk_below (g := gb367) blkz hb); replace HB := Aside0.mk (below_step bel hb); clear hb)); go_upto_region 11 with (first | (go_at_call 14; (with_reducible refine (dropperref05_IsOrder.calls kj97 a0_0 _ _ l0_1 _ _ l0_2 a1_0 _ _ l1_2 _ _ l1_3 t388 t389 _ (cbz HR0_1) HC0_1.out (cbz HR0_2) HC0_2.out (cbz HR1_2) HC1_2.out (cbz HR1_3) HC1_3.out A107.out).mono ?_); rintro e w112 ⟨rfl, hb⟩; replace HO_5 := Aside0.mk (Kd.R_below (ownx HO_5) hb); replace HO_7 := Aside0.mk (Kd.R_below (ownx HO_7) hb); replace BK366 := Aside0.mk (blk_below (g := gb366) blkz hb); replace BK367 := Aside0.mk (blk_below (g := gb367) blkz hb); replace HB := Aside0.mk (below_step bel hb); clear hb)))
             (try simp only [Act.put, List.setIfInBounds_toArray, List.set_cons_zero, List.set_cons_succ])
             go_cut [151] (fun v151 wc => ∃ (kq : Nat) (x151_107 : Bool), v151 = .bool x151_107 ∧ Aside0 (droppertop_TopOrder.j3 kq t373 t377 x151_107 a0_0 l0_1 l0_2 a1_0 a1_1 l1_2 l1_3 l1_4 = some r) ∧ Aside0 (kq ≤ kj97) ∧ Aside0 (Kd.R (Kd.int .i64) 3 wc w.heap.size (fun k_ => some k_ ≠ (v378 : Value).ownBlock) (.slice Ao74 t373.length co74) t373) ∧ Aside0 (Kd.R (Kd.int .i64) 3 wc w.heap.size (fun k_ => some k_ ≠ ((.slice Ao74 t373.length co74) : Value).ownBlock) v378 t377) ∧ Aside0 (wc.heap[gb366]? = some (.cells #[.int .i64 a0_0, (.slice A0_1 l0_1.length c0_1), (.slice A0_2 l0_2.length c0_2)] 25 (0, 0))) ∧ Aside0 (wc.heap[gb367]? = some (.cells #[.int .i64 a1_0, .int .i64 a1_1, (.slice A1_2 l1_2.length c1_2), (.slice A1_3 l1_3.length c1_3), (.slice A1_4 l1_4.length c1_4)] 28 (0, 0))) ∧ Aside0 (Below w.heap.size w wc))
             case first =>
              have H := HC108.out
              clear HC108
              by_cases c113 : t389 = 0
              ·
               rw [if_pos c113] at H
               have c113b0 : (t389 == 0) = true := beq_iff_eq.mpr c113
               have c113b1 : (t389 != 0) = false := bne_eq_false_iff_eq.mpr c113
               clear c113
               (first | rw [c113b0] | (simp only [i64_w, i32_w]; rw [c113b0]) | skip)
               have H' := Aside0.mk H
               clear H
               go_wp2
               repeat (go_quiet (fail); try go_wp2)
               go_meet
               case rel => exact ⟨_, (t388), rsz, H', ⟨by have := HJ2.out; have := HJ63.out; have := HJ97.out; first | omega | exact Nat.le_refl _⟩, ⟨by (with_reducible repeat (first | apply Kd.R_alloc | apply Kd.R_drewN | apply Kd.R_drew)); exact HO_5.out⟩, ⟨by (with_reducible repeat (first | apply Kd.R_alloc | apply Kd.R_drewN | apply Kd.R_drew)); exact HO_7.out⟩, ⟨blkz⟩, ⟨blkz⟩, ⟨bel⟩⟩
              ·
               rw [if_neg c113] at H
               have c113b0 : (t389 == 0) = false := beq_eq_false_iff_ne.mpr c113
               have c113b1 : (t389 != 0) = true := bne_iff_ne.mpr c113
               (first | rw [c113b0] | (simp only [i64_w, i32_w]; rw [c113b0]) | skip)
               have H' := Aside0.mk H
               clear H
               go_wp2
               repeat (go_quiet (fail); try go_wp2)
               go_meet
               case rel => exact ⟨_, (false), rsz, H', ⟨by have := HJ2.out; have := HJ63.out; have := HJ97.out; first | omega | exact Nat.le_refl _⟩, ⟨by (with_reducible repeat (first | apply Kd.R_alloc | apply Kd.R_drewN | apply Kd.R_drew)); exact HO_5.out⟩, ⟨by (with_reducible repeat (first | apply Kd.R_alloc | apply Kd.R_drewN | apply Kd.R_drew)); exact HO_7.out⟩, ⟨blkz⟩, ⟨blkz⟩, ⟨bel⟩⟩
             case rest =>
              as_aux_lemma =>
               clear HC108
               (try clear c1); (try clear c2); (try clear p2); (try clear c3); (try clear c4); (try clear c5); (try clear c6); (try clear c7); (try clear c8); (try clear c8b0); (try clear c8b1); (try clear c9); (try clear c10); (try clear c11); (try clear c13); (try clear c13b0); (try clear c13b1); (try clear c14); (try clear c18); (try clear c18b0); (try clear c18b1); (try clear c19); (try clear c24); (try clear c26); (try clear c28); (try clear c40); (try clear c49); (try clear c55); (try clear c58); (try clear c65); (try clear c76); (try clear c76b0); (try clear c76b1); (try clear c77); (try clear c77b0); (try clear c77b1); (try clear c78); (try clear c78b0); (try clear c78b1); (try clear c79); (try clear c81); (try clear c83); (try clear c85); (try clear c87); (try clear c87b0); (try clear c87b1); (try clear c88); (try clear c88b0); (try clear c88b1); (try clear c89); (try clear c91); (try clear c93); (try clear c95); (try clear c97); (try clear c99); (try clear c99b0); (try clear c99b1); (try clear c101); (try clear c106); (try clear c109); (try clear c113); (try clear c113b0); (try clear c113b1); (try clear hcz102_0); (try clear hcz102_1); (try clear hcz102_2); (try clear hcz103_0); (try clear hcz103_1); (try clear hcz103_2); (try clear hcz103_3); (try clear hcz103_4); (try clear hcz10_0); (try clear hcz10_1); (try clear hcz10_2); (try clear hcz110_0); (try clear hcz110_1); (try clear hcz110_2); (try clear hcz111_0); (try clear hcz111_1); (try clear hcz111_2); (try clear hcz111_3); (try clear hcz111_4); (try clear hcz12_0); (try clear hcz12_1); (try clear hcz12_2); (try clear hcz12_3); (try clear hcz12_4); (try clear hcz15_0); (try clear hcz15_1); (try clear hcz15_2); (try clear hcz17_0); (try clear hcz17_1); (try clear hcz17_2); (try clear hcz17_3); (try clear hcz17_4); (try clear hcz20_0); (try clear hcz20_1); (try clear hcz20_2); (try clear hcz22_0); (try clear hcz22_1); (try clear hcz22_2); (try clear hcz22_3); (try clear hcz22_4); (try clear hcz29_0); (try clear hcz29_1); (try clear hcz29_2); (try clear hcz31_0); (try clear hcz31_1); (try clear hcz31_2); (try clear hcz31_3); (try clear hcz31_4); (try clear hcz32_0); (try clear hcz32_1); (try clear hcz32_2); (try clear hcz34_0); (try clear hcz34_1); (try clear hcz34_2); (try clear hcz35_0); (try clear hcz35_1); (try clear hcz35_2); (try clear hcz35_3); (try clear hcz35_4); (try clear hcz37_0); (try clear hcz37_1); (try clear hcz37_2); (try clear hcz38_0); (try clear hcz38_1); (try clear hcz38_2); (try clear hcz38_3); (try clear hcz38_4); (try clear hcz41_0); (try clear hcz41_1); (try clear hcz41_2); (try clear hcz43_0); (try clear hcz43_1); (try clear hcz43_2); (try clear hcz43_3); (try clear hcz43_4); (try clear hcz44_0); (try clear hcz44_1); (try clear hcz44_2); (try clear hcz46_0); (try clear hcz46_1); (try clear hcz46_2); (try clear hcz47_0); (try clear hcz47_1); (try clear hcz47_2); (try clear hcz47_3); (try clear hcz47_4); (try clear hcz50_0); (try clear hcz50_1); (try clear hcz50_2); (try clear hcz52_0); (try clear hcz52_1); (try clear hcz52_2); (try clear hcz52_3); (try clear hcz52_4); (try clear hcz53_0); (try clear hcz53_1); (try clear hcz53_2); (try clear hcz56_0); (try clear hcz56_1); (try clear hcz56_2); (try clear hcz66_0); (try clear hcz66_1); (try clear hcz66_2); (try clear hcz67_0); (try clear hcz67_1); (try clear hcz67_2); (try clear hcz67_3); (try clear hcz67_4); (try clear hcz69_0); (try clear hcz69_1); (try clear hcz69_2); (try clear hcz70_0); (try clear hcz70_1); (try clear hcz70_2); (try clear hcz70_3); (try clear hcz70_4); (try clear hcz72_0); (try clear hcz72_1); (try clear hcz72_2); (try clear hcz73_0); (try clear hcz73_1); (try clear hcz73_2); (try clear hcz73_3); (try clear hcz73_4); (try clear hcz84_0); (try clear hcz84_1); (try clear hcz84_2); (try clear hcz84_3); (try clear hcz84_4); (try clear hcz86_0); (try clear hcz86_1); (try clear hcz86_2); (try clear hcz86_3); (try clear hcz86_4); (try clear hcz94_0); (try clear hcz94_1); (try clear hcz94_2); (try clear hcz94_3); (try clear hcz94_4); (try clear hcz96_0); (try clear hcz96_1); (try clear hcz96_2); (try clear hcz96_3); (try clear hcz96_4); (try clear hfz102_0); (try clear hfz102_1); (try clear hfz102_2); (try clear hfz103_0); (try clear hfz103_1); (try clear hfz103_2); (try clear hfz103_3); (try clear hfz103_4); (try clear hfz10_0); (try clear hfz10_1); (try clear hfz10_2); (try clear hfz110_0); (try clear hfz110_1); (try clear hfz110_2); (try clear hfz111_0); (try clear hfz111_1); (try clear hfz111_2); (try clear hfz111_3); (try clear hfz111_4); (try clear hfz12_0); (try clear hfz12_1); (try clear hfz12_2); (try clear hfz12_3); (try clear hfz12_4); (try clear hfz15_0); (try clear hfz15_1); (try clear hfz15_2); (try clear hfz17_0); (try clear hfz17_1); (try clear hfz17_2); (try clear hfz17_3); (try clear hfz17_4); (try clear hfz20_0); (try clear hfz20_1); (try clear hfz20_2); (try clear hfz22_0); (try clear hfz22_1); (try clear hfz22_2); (try clear hfz22_3); (try clear hfz22_4); (try clear hfz29_0); (try clear hfz29_1); (try clear hfz29_2); (try clear hfz31_0); (try clear hfz31_1); (try clear hfz31_2); (try clear hfz31_3); (try clear hfz31_4); (try clear hfz32_0); (try clear hfz32_1); (try clear hfz32_2); (try clear hfz34_0); (try clear hfz34_1); (try clear hfz34_2); (try clear hfz35_0); (try clear hfz35_1); (try clear hfz35_2); (try clear hfz35_3); (try clear hfz35_4); (try clear hfz37_0); (try clear hfz37_1); (try clear hfz37_2); (try clear hfz38_0); (try clear hfz38_1); (try clear hfz38_2); (try clear hfz38_3); (try clear hfz38_4); (try clear hfz41_0); (try clear hfz41_1); (try clear hfz41_2); (try clear hfz43_0); (try clear hfz43_1); (try clear hfz43_2); (try clear hfz43_3); (try clear hfz43_4); (try clear hfz44_0); (try clear hfz44_1); (try clear hfz44_2); (try clear hfz46_0); (try clear hfz46_1); (try clear hfz46_2); (try clear hfz47_0); (try clear hfz47_1); (try clear hfz47_2); (try clear hfz47_3); (try clear hfz47_4); (try clear hfz50_0); (try clear hfz50_1); (try clear hfz50_2); (try clear hfz52_0); (try clear hfz52_1); (try clear hfz52_2); (try clear hfz52_3); (try clear hfz52_4); (try clear hfz53_0); (try clear hfz53_1); (try clear hfz53_2); (try clear hfz56_0); (try clear hfz56_1); (try clear hfz56_2); (try clear hfz66_0); (try clear hfz66_1); (try clear hfz66_2); (try clear hfz67_0); (try clear hfz67_1); (try clear hfz67_2); (try clear hfz67_3); (try clear hfz67_4); (try clear hfz69_0); (try clear hfz69_1); (try clear hfz69_2); (try clear hfz70_0); (try clear hfz70_1); (try clear hfz70_2); (try clear hfz70_3); (try clear hfz70_4); (try clear hfz72_0); (try clear hfz72_1); (try clear hfz72_2); (try clear hfz73_0); (try clear hfz73_1); (try clear hfz73_2); (try clear hfz73_3); (try clear hfz73_4); (try clear hfz84_0); (try clear hfz84_1); (try clear hfz84_2); (try clear hfz84_3); (try clear hfz84_4); (try clear hfz86_0); (try clear hfz86_1); (try clear hfz86_2); (try clear hfz86_3); (try clear hfz86_4); (try clear hfz94_0); (try clear hfz94_1); (try clear hfz94_2); (try clear hfz94_3); (try clear hfz94_4); (try clear hfz96_0); (try clear hfz96_1); (try clear hfz96_2); (try clear hfz96_3); (try clear hfz96_4); (try clear p2)
               obtain ⟨kq, x151_107, rfl, HA, HJ107, HO_5, HO_7, BK366, BK367, HB⟩ := hcut
               cases kq with
               | zero => exact absurd HA.out (by simp [droppertop_TopOrder.j3])
               | succ kj107 =>
                have H := HA.out
                clear HA
                simp only [droppertop_TopOrder.j3] at H
                have HC114 := Aside0.mk H
                clear H
                go_upto_if 151 with (fail)
                repeat (go_quiet (fail); go_upto_if 151 with (fail))
                go_cut [] (fun wc => ∃ (kq : Nat), Aside0 (droppertop_TopOrder.j5 kq t373 a0_0 l0_1 l0_2 a1_0 a1_1 l1_2 l1_3 l1_4 = some r) ∧ Aside0 (kq ≤ kj107) ∧ Aside0 (Kd.R (Kd.int .i64) 3 wc w.heap.size (fun _ => True) (.slice Ao74 t373.length co74) t373) ∧ Aside0 (wc.heap[gb366]? = some (.cells #[.int .i64 a0_0, (.slice A0_1 l0_1.length c0_1), (.slice A0_2 l0_2.length c0_2)] 25 (0, 0))) ∧ Aside0 (wc.heap[gb367]? = some (.cells #[.int .i64 a1_0, .int .i64 a1_1, (.slice A1_2 l1_2.length c1_2), (.slice A1_3 l1_3.length c1_3), (.slice A1_4 l1_4.length c1_4)] 28 (0, 0))) ∧ Aside0 (Below w.heap.size w wc))
                case first =>
                 have H := HC114.out
                 clear HC114
                 by_cases c115 : x151_107 = true
                 ·
                  subst c115
                  rw [if_pos rfl] at H
                  replace H := Option.bind_eq_some_iff.mp H
                  obtain ⟨⟨t390, t391⟩, A1160, H⟩ := H
                  try dsimp only at H
                  have A116 := Aside0.mk A1160
                  clear A1160
                  have HC117 := Aside0.mk H
                  clear H
                  have hnb118 := NB366_367.out
                  have hnc118 := NB367_366.out
                  obtain ⟨hcz119_0, hcz119_1, hcz119_2⟩ := bc3 BK366.out
                  obtain ⟨hfz119_0, hfz119_1, hfz119_2⟩ := bf3 BK366.out
                  obtain ⟨hcz120_0, hcz120_1, hcz120_2, hcz120_3, hcz120_4⟩ := bc5 BK367.out
                  obtain ⟨hfz120_0, hfz120_1, hfz120_2, hfz120_3, hfz120_4⟩ := bf5 BK367.out
                  go_upto_region 13 with (first | (go_at_call 15; (with_reducible refine (feed_After.calls kj107 a0_0 _ _ l0_1 _ _ l0_2 a1_0 _ _ l1_3 t390 t391 _ (cbz HR0_1) HC0_1.out (cbz HR0_2) HC0_2.out (cbz HR1_3) HC1_3.out A116.out).mono ?_); rintro e w121 ⟨rfl, hb⟩; replace HO_5 := Aside0.mk (Kd.R_below (ownx HO_5) hb); replace HO_7 := Aside0.mk (Kd.R_below (ownx HO_7) hb); replace BK366 := Aside0.mk (blk_below (g := gb366) blkz hb); replace BK367 := Aside0.mk (blk_below (g := gb367) blkz hb); replace HB := Aside0.mk (below_step bel hb); clear hb))
                  repeat (go_quiet (first | (go_at_call 15; (with_reducible refine (feed_After.calls kj107 a0_0 _ _ l0_1 _ _ l0_2 a1_0 _ _ l1_3 t390 t391 _ (cbz HR0_1) HC0_1.out (cbz HR0_2) HC0_2.out (cbz HR1_3) HC1_3.out A116.out).mono ?_); rintro e w121 ⟨rfl, hb⟩; replace HO_5 := Aside0.mk (Kd.R_below (ownx HO_5) hb); replace HO_7 := Aside0.mk (Kd.R_below (ownx HO_7) hb); replace BK366 := Aside0.mk (blk_below (g := gb366) blkz hb); replace BK367 := Aside0.mk (blk_below (g := gb367) blkz hb); replace HB := Aside0.mk (below_step bel hb); clear hb)); go_upto_region 13 with (first | (go_at_call 15; (with_reducible refine (feed_After.calls kj107 a0_0 _ _ l0_1 _ _ l0_2 a1_0 _ _ l1_3 t390 t391 _ (cbz HR0_1) HC0_1.out (cbz HR0_2) HC0_2.out (cbz HR1_3) HC1_3.out A116.out).mono ?_); rintro e w121 ⟨rfl, hb⟩; replace HO_5 := Aside0.mk (Kd.R_below (ownx HO_5) hb); replace HO_7 := Aside0.mk (Kd.R_below (ownx HO_7) hb); replace BK366 := Aside0.mk (blk_below (g := gb366) blkz hb); replace BK367 := Aside0.mk (blk_below (g := gb367) blkz hb); replace HB := Aside0.mk (below_step bel hb); clear hb)))
                  (try simp only [Act.put, List.setIfInBounds_toArray, List.set_cons_zero, List.set_cons_succ])
                  go_cut [168] (fun v168 wc => ∃ (kq : Nat) (x168_116 : Bool), v168 = .bool x168_116 ∧ Aside0 (droppertop_TopOrder.j4 kq t373 t377 t390 x168_116 a0_0 l0_1 l0_2 a1_0 a1_1 l1_2 l1_3 l1_4 = some r) ∧ Aside0 (kq ≤ kj107) ∧ Aside0 (Kd.R (Kd.int .i64) 3 wc w.heap.size (fun k_ => some k_ ≠ (v378 : Value).ownBlock) (.slice Ao74 t373.length co74) t373) ∧ Aside0 (Kd.R (Kd.int .i64) 3 wc w.heap.size (fun k_ => some k_ ≠ ((.slice Ao74 t373.length co74) : Value).ownBlock) v378 t377) ∧ Aside0 (wc.heap[gb366]? = some (.cells #[.int .i64 a0_0, (.slice A0_1 l0_1.length c0_1), (.slice A0_2 l0_2.length c0_2)] 25 (0, 0))) ∧ Aside0 (wc.heap[gb367]? = some (.cells #[.int .i64 a1_0, .int .i64 a1_1, (.slice A1_2 l1_2.length c1_2), (.slice A1_3 l1_3.length c1_3), (.slice A1_4 l1_4.length c1_4)] 28 (0, 0))) ∧ Aside0 (Below w.heap.size w wc))
                  case first =>
                   have H := HC117.out
                   clear HC117
                   by_cases c122 : t391 = 0
                   ·
                    rw [if_pos c122] at H
                    have c122b0 : (t391 == 0) = true := beq_iff_eq.mpr c122
                    have c122b1 : (t391 != 0) = false := bne_eq_false_iff_eq.mpr c122
                    clear c122
                    (first | rw [c122b0] | (simp only [i64_w, i32_w]; rw [c122b0]) | skip)
                    replace H := Option.bind_eq_some_iff.mp H
                    obtain ⟨t392, A1230, H⟩ := H
                    try dsimp only at H
                    have A123 := Aside0.mk A1230
                    clear A1230
                    have H' := Aside0.mk H
                    clear H
                    go_wp2_with (first | (go_at_call 12; (with_reducible refine (droppertop_holds.calls kj107 _ _ t373 t390 t392 _ ?side1 ?side2 A123.out).mono ?_); (case side1 => repeat (first | exact (Kd.R_reads' HO_5.out).2.2 | (with_reducible refine Kd.C_alloc ?_ _) | (with_reducible refine Kd.C_drewN ?_ _) | (with_reducible refine Kd.C_drew ?_))); (case side2 => exact (Kd.R_reads' HO_5.out).2.1); rintro e w' ⟨rfl, ⟨nd, rfl⟩⟩; (try first | exact ⟨rfl, _, World.drewN_drewN _ _ _⟩ | exact ⟨rfl, _, Eq.trans (World.drewN_drewN _ _ _) (congrArg (World.drewN _) (Nat.add_assoc _ _ _))⟩)))
                    repeat (go_quiet (first | (go_at_call 12; (with_reducible refine (droppertop_holds.calls kj107 _ _ t373 t390 t392 _ ?side1 ?side2 A123.out).mono ?_); (case side1 => repeat (first | exact (Kd.R_reads' HO_5.out).2.2 | (with_reducible refine Kd.C_alloc ?_ _) | (with_reducible refine Kd.C_drewN ?_ _) | (with_reducible refine Kd.C_drew ?_))); (case side2 => exact (Kd.R_reads' HO_5.out).2.1); rintro e w' ⟨rfl, ⟨nd, rfl⟩⟩; (try first | exact ⟨rfl, _, World.drewN_drewN _ _ _⟩ | exact ⟨rfl, _, Eq.trans (World.drewN_drewN _ _ _) (congrArg (World.drewN _) (Nat.add_assoc _ _ _))⟩))); try go_wp2_with (first | (go_at_call 12; (with_reducible refine (droppertop_holds.calls kj107 _ _ t373 t390 t392 _ ?side1 ?side2 A123.out).mono ?_); (case side1 => repeat (first | exact (Kd.R_reads' HO_5.out).2.2 | (with_reducible refine Kd.C_alloc ?_ _) | (with_reducible refine Kd.C_drewN ?_ _) | (with_reducible refine Kd.C_drew ?_))); (case side2 => exact (Kd.R_reads' HO_5.out).2.1); rintro e w' ⟨rfl, ⟨nd, rfl⟩⟩; (try first | exact ⟨rfl, _, World.drewN_drewN _ _ _⟩ | exact ⟨rfl, _, Eq.trans (World.drewN_drewN _ _ _) (congrArg (World.drewN _) (Nat.add_assoc _ _ _))⟩))))
                    go_meet
                    case rel => exact ⟨_, (!t392), rsz, H', ⟨by have := HJ2.out; have := HJ63.out; have := HJ97.out; have := HJ107.out; first | omega | exact Nat.le_refl _⟩, ⟨by (with_reducible repeat (first | apply Kd.R_alloc | apply Kd.R_drewN | apply Kd.R_drew)); exact HO_5.out⟩, ⟨by (with_reducible repeat (first | apply Kd.R_alloc | apply Kd.R_drewN | apply Kd.R_drew)); exact HO_7.out⟩, ⟨blkz⟩, ⟨blkz⟩, ⟨bel⟩⟩
                   ·
                    rw [if_neg c122] at H
                    have c122b0 : (t391 == 0) = false := beq_eq_false_iff_ne.mpr c122
                    have c122b1 : (t391 != 0) = true := bne_iff_ne.mpr c122
                    (first | rw [c122b0] | (simp only [i64_w, i32_w]; rw [c122b0]) | skip)
                    have H' := Aside0.mk H
                    clear H
                    go_wp2
                    repeat (go_quiet (fail); try go_wp2)
                    go_meet
                    case rel => exact ⟨_, (true), rsz, H', ⟨by have := HJ2.out; have := HJ63.out; have := HJ97.out; have := HJ107.out; first | omega | exact Nat.le_refl _⟩, ⟨by (with_reducible repeat (first | apply Kd.R_alloc | apply Kd.R_drewN | apply Kd.R_drew)); exact HO_5.out⟩, ⟨by (with_reducible repeat (first | apply Kd.R_alloc | apply Kd.R_drewN | apply Kd.R_drew)); exact HO_7.out⟩, ⟨blkz⟩, ⟨blkz⟩, ⟨bel⟩⟩
                  case rest =>
                   as_aux_lemma =>
                    clear HC117
                    (try clear c1); (try clear c2); (try clear p2); (try clear c3); (try clear c4); (try clear c5); (try clear c6); (try clear c7); (try clear c8); (try clear c8b0); (try clear c8b1); (try clear c9); (try clear c10); (try clear c11); (try clear c12); (try clear c13); (try clear c13b0); (try clear c13b1); (try clear c14); (try clear c18); (try clear c18b0); (try clear c18b1); (try clear c19); (try clear c24); (try clear c26); (try clear c28); (try clear c40); (try clear c49); (try clear c55); (try clear c58); (try clear c65); (try clear c76); (try clear c76b0); (try clear c76b1); (try clear c77); (try clear c77b0); (try clear c77b1); (try clear c78); (try clear c78b0); (try clear c78b1); (try clear c79); (try clear c81); (try clear c83); (try clear c85); (try clear c87); (try clear c87b0); (try clear c87b1); (try clear c88); (try clear c88b0); (try clear c88b1); (try clear c89); (try clear c91); (try clear c93); (try clear c95); (try clear c97); (try clear c99); (try clear c99b0); (try clear c99b1); (try clear c101); (try clear c106); (try clear c109); (try clear c113); (try clear c113b0); (try clear c113b1); (try clear c115); (try clear c118); (try clear c122); (try clear c122b0); (try clear c122b1); (try clear hcz102_0); (try clear hcz102_1); (try clear hcz102_2); (try clear hcz103_0); (try clear hcz103_1); (try clear hcz103_2); (try clear hcz103_3); (try clear hcz103_4); (try clear hcz10_0); (try clear hcz10_1); (try clear hcz10_2); (try clear hcz110_0); (try clear hcz110_1); (try clear hcz110_2); (try clear hcz111_0); (try clear hcz111_1); (try clear hcz111_2); (try clear hcz111_3); (try clear hcz111_4); (try clear hcz119_0); (try clear hcz119_1); (try clear hcz119_2); (try clear hcz120_0); (try clear hcz120_1); (try clear hcz120_2); (try clear hcz120_3); (try clear hcz120_4); (try clear hcz12_0); (try clear hcz12_1); (try clear hcz12_2); (try clear hcz12_3); (try clear hcz12_4); (try clear hcz15_0); (try clear hcz15_1); (try clear hcz15_2); (try clear hcz17_0); (try clear hcz17_1); (try clear hcz17_2); (try clear hcz17_3); (try clear hcz17_4); (try clear hcz20_0); (try clear hcz20_1); (try clear hcz20_2); (try clear hcz22_0); (try clear hcz22_1); (try clear hcz22_2); (try clear hcz22_3); (try clear hcz22_4); (try clear hcz29_0); (try clear hcz29_1); (try clear hcz29_2); (try clear hcz31_0); (try clear hcz31_1); (try clear hcz31_2); (try clear hcz31_3); (try clear hcz31_4); (try clear hcz32_0); (try clear hcz32_1); (try clear hcz32_2); (try clear hcz34_0); (try clear hcz34_1); (try clear hcz34_2); (try clear hcz35_0); (try clear hcz35_1); (try clear hcz35_2); (try clear hcz35_3); (try clear hcz35_4); (try clear hcz37_0); (try clear hcz37_1); (try clear hcz37_2); (try clear hcz38_0); (try clear hcz38_1); (try clear hcz38_2); (try clear hcz38_3); (try clear hcz38_4); (try clear hcz41_0); (try clear hcz41_1); (try clear hcz41_2); (try clear hcz43_0); (try clear hcz43_1); (try clear hcz43_2); (try clear hcz43_3); (try clear hcz43_4); (try clear hcz44_0); (try clear hcz44_1); (try clear hcz44_2); (try clear hcz46_0); (try clear hcz46_1); (try clear hcz46_2); (try clear hcz47_0); (try clear hcz47_1); (try clear hcz47_2); (try clear hcz47_3); (try clear hcz47_4); (try clear hcz50_0); (try clear hcz50_1); (try clear hcz50_2); (try clear hcz52_0); (try clear hcz52_1); (try clear hcz52_2); (try clear hcz52_3); (try clear hcz52_4); (try clear hcz53_0); (try clear hcz53_1); (try clear hcz53_2); (try clear hcz56_0); (try clear hcz56_1); (try clear hcz56_2); (try clear hcz66_0); (try clear hcz66_1); (try clear hcz66_2); (try clear hcz67_0); (try clear hcz67_1); (try clear hcz67_2); (try clear hcz67_3); (try clear hcz67_4); (try clear hcz69_0); (try clear hcz69_1); (try clear hcz69_2); (try clear hcz70_0); (try clear hcz70_1); (try clear hcz70_2); (try clear hcz70_3); (try clear hcz70_4); (try clear hcz72_0); (try clear hcz72_1); (try clear hcz72_2); (try clear hcz73_0); (try clear hcz73_1); (try clear hcz73_2); (try clear hcz73_3); (try clear hcz73_4); (try clear hcz84_0); (try clear hcz84_1); (try clear hcz84_2); (try clear hcz84_3); (try clear hcz84_4); (try clear hcz86_0); (try clear hcz86_1); (try clear hcz86_2); (try clear hcz86_3); (try clear hcz86_4); (try clear hcz94_0); (try clear hcz94_1); (try clear hcz94_2); (try clear hcz94_3); (try clear hcz94_4); (try clear hcz96_0); (try clear hcz96_1); (try clear hcz96_2); (try clear hcz96_3); (try clear hcz96_4); (try clear hfz102_0); (try clear hfz102_1); (try clear hfz102_2); (try clear hfz103_0); (try clear hfz103_1); (try clear hfz103_2); (try clear hfz103_3); (try clear hfz103_4); (try clear hfz10_0); (try clear hfz10_1); (try clear hfz10_2); (try clear hfz110_0); (try clear hfz110_1); (try clear hfz110_2); (try clear hfz111_0); (try clear hfz111_1); (try clear hfz111_2); (try clear hfz111_3); (try clear hfz111_4); (try clear hfz119_0); (try clear hfz119_1); (try clear hfz119_2); (try clear hfz120_0); (try clear hfz120_1); (try clear hfz120_2); (try clear hfz120_3); (try clear hfz120_4); (try clear hfz12_0); (try clear hfz12_1); (try clear hfz12_2); (try clear hfz12_3); (try clear hfz12_4); (try clear hfz15_0); (try clear hfz15_1); (try clear hfz15_2); (try clear hfz17_0); (try clear hfz17_1); (try clear hfz17_2); (try clear hfz17_3); (try clear hfz17_4); (try clear hfz20_0); (try clear hfz20_1); (try clear hfz20_2); (try clear hfz22_0); (try clear hfz22_1); (try clear hfz22_2); (try clear hfz22_3); (try clear hfz22_4); (try clear hfz29_0); (try clear hfz29_1); (try clear hfz29_2); (try clear hfz31_0); (try clear hfz31_1); (try clear hfz31_2); (try clear hfz31_3); (try clear hfz31_4); (try clear hfz32_0); (try clear hfz32_1); (try clear hfz32_2); (try clear hfz34_0); (try clear hfz34_1); (try clear hfz34_2); (try clear hfz35_0); (try clear hfz35_1); (try clear hfz35_2); (try clear hfz35_3); (try clear hfz35_4); (try clear hfz37_0); (try clear hfz37_1); (try clear hfz37_2); (try clear hfz38_0); (try clear hfz38_1); (try clear hfz38_2); (try clear hfz38_3); (try clear hfz38_4); (try clear hfz41_0); (try clear hfz41_1); (try clear hfz41_2); (try clear hfz43_0); (try clear hfz43_1); (try clear hfz43_2); (try clear hfz43_3); (try clear hfz43_4); (try clear hfz44_0); (try clear hfz44_1); (try clear hfz44_2); (try clear hfz46_0); (try clear hfz46_1); (try clear hfz46_2); (try clear hfz47_0); (try clear hfz47_1); (try clear hfz47_2); (try clear hfz47_3); (try clear hfz47_4); (try clear hfz50_0); (try clear hfz50_1); (try clear hfz50_2); (try clear hfz52_0); (try clear hfz52_1); (try clear hfz52_2); (try clear hfz52_3); (try clear hfz52_4); (try clear hfz53_0); (try clear hfz53_1); (try clear hfz53_2); (try clear hfz56_0); (try clear hfz56_1); (try clear hfz56_2); (try clear hfz66_0); (try clear hfz66_1); (try clear hfz66_2); (try clear hfz67_0); (try clear hfz67_1); (try clear hfz67_2); (try clear hfz67_3); (try clear hfz67_4); (try clear hfz69_0); (try clear hfz69_1); (try clear hfz69_2); (try clear hfz70_0); (try clear hfz70_1); (try clear hfz70_2); (try clear hfz70_3); (try clear hfz70_4); (try clear hfz72_0); (try clear hfz72_1); (try clear hfz72_2); (try clear hfz73_0); (try clear hfz73_1); (try clear hfz73_2); (try clear hfz73_3); (try clear hfz73_4); (try clear hfz84_0); (try clear hfz84_1); (try clear hfz84_2); (try clear hfz84_3); (try clear hfz84_4); (try clear hfz86_0); (try clear hfz86_1); (try clear hfz86_2); (try clear hfz86_3); (try clear hfz86_4); (try clear hfz94_0); (try clear hfz94_1); (try clear hfz94_2); (try clear hfz94_3); (try clear hfz94_4); (try clear hfz96_0); (try clear hfz96_1); (try clear hfz96_2); (try clear hfz96_3); (try clear hfz96_4); (try clear p2)
                    obtain ⟨kq, x168_116, rfl, HA, HJ116, HO_5, HO_7, BK366, BK367, HB⟩ := hcut
                    cases kq with
                    | zero => exact absurd HA.out (by simp [droppertop_TopOrder.j4])
                    | succ kj116 =>
                     have H := HA.out
                     clear HA
                     simp only [droppertop_TopOrder.j4] at H
                     by_cases c124 : x168_116 = true
                     ·
                      subst c124
                      rw [if_pos rfl] at H
                      exact absurd H (by simp)
                     ·
                      replace c124 := Bool.eq_false_iff.mpr c124
                      subst c124
                      rw [if_neg (show ¬ (false = true) by decide)] at H
                      by_cases c125 : (t377.length : Int) > (l1_3.length : Int)
                      ·
                       rw [if_pos c125] at H
                       have c125b0 : decide ((l1_3.length : Int) < (t377.length : Int)) = true := decide_eq_true c125
                       have c125b1 : decide (l1_3.length < t377.length) = true := decide_eq_true (Int.ofNat_lt.mp c125)
                       clear c125
                       by_cases c126 : t390 = a1_1
                       ·
                        rw [if_pos c126] at H
                        exact absurd H (by simp)
                       ·
                        rw [if_neg c126] at H
                        have c126b0 : (t390 == a1_1) = false := beq_eq_false_iff_ne.mpr c126
                        have c126b1 : (t390 != a1_1) = true := bne_iff_ne.mpr c126
                        have H' := Aside0.mk H
                        clear H
                        obtain ⟨Ao127, co127, eo127⟩ := Kd.R_slice HO_7.out
                        subst eo127
                        have hnb128 := NB367_366.out
                        have hnc128 := NB366_367.out
                        obtain ⟨hcz129_0, hcz129_1, hcz129_2, hcz129_3, hcz129_4⟩ := bc5 BK367.out
                        obtain ⟨hfz129_0, hfz129_1, hfz129_2, hfz129_3, hfz129_4⟩ := bf5 BK367.out
                        go_wp2
                        repeat (go_quiet (fail); try go_wp2)
                        go_meet
                        case rel => exact ⟨_, H', ⟨by have := HJ2.out; have := HJ63.out; have := HJ97.out; have := HJ107.out; have := HJ116.out; first | omega | exact Nat.le_refl _⟩, ⟨by (with_reducible repeat (first | apply Kd.R_alloc | apply Kd.R_drewN | apply Kd.R_drew)); exact Kd.R_mono HO_5.out (fun _ hk => trivial)⟩, ⟨blkz⟩, ⟨blkz⟩, ⟨bel⟩⟩
                      ·
                       rw [if_neg c125] at H
                       have c125b0 : decide ((l1_3.length : Int) < (t377.length : Int)) = false := decide_eq_false c125
                       have c125b1 : decide (l1_3.length < t377.length) = false := decide_eq_false (fun h => c125 (Int.ofNat_lt.mpr h))
                       clear c125
                       have H' := Aside0.mk H
                       clear H
                       obtain ⟨Ao130, co130, eo130⟩ := Kd.R_slice HO_7.out
                       subst eo130
                       have hnb131 := NB367_366.out
                       have hnc131 := NB366_367.out
                       obtain ⟨hcz132_0, hcz132_1, hcz132_2, hcz132_3, hcz132_4⟩ := bc5 BK367.out
                       obtain ⟨hfz132_0, hfz132_1, hfz132_2, hfz132_3, hfz132_4⟩ := bf5 BK367.out
                       go_wp2
                       repeat (go_quiet (fail); try go_wp2)
                       go_meet
                       case rel => exact ⟨_, H', ⟨by have := HJ2.out; have := HJ63.out; have := HJ97.out; have := HJ107.out; have := HJ116.out; first | omega | exact Nat.le_refl _⟩, ⟨by (with_reducible repeat (first | apply Kd.R_alloc | apply Kd.R_drewN | apply Kd.R_drew)); exact Kd.R_mono HO_5.out (fun _ hk => trivial)⟩, ⟨blkz⟩, ⟨blkz⟩, ⟨bel⟩⟩
                 ·
                  replace c115 := Bool.eq_false_iff.mpr c115
                  subst c115
                  rw [if_neg (show ¬ (false = true) by decide)] at H
                  have H' := Aside0.mk H
                  clear H
                  go_wp2
                  repeat (go_quiet (fail); try go_wp2)
                  go_meet
                  case rel => exact ⟨_, H', ⟨by have := HJ2.out; have := HJ63.out; have := HJ97.out; have := HJ107.out; first | omega | exact Nat.le_refl _⟩, ⟨by (with_reducible repeat (first | apply Kd.R_alloc | apply Kd.R_drewN | apply Kd.R_drew)); exact Kd.R_mono HO_5.out (fun _ hk => trivial)⟩, ⟨blkz⟩, ⟨blkz⟩, ⟨bel⟩⟩
                case rest =>
                 as_aux_lemma =>
                  clear HC114
                  (try clear c1); (try clear c2); (try clear p2); (try clear c3); (try clear c4); (try clear c5); (try clear c6); (try clear c7); (try clear c8); (try clear c8b0); (try clear c8b1); (try clear c9); (try clear c10); (try clear c11); (try clear c12); (try clear c13); (try clear c13b0); (try clear c13b1); (try clear c14); (try clear c18); (try clear c18b0); (try clear c18b1); (try clear c19); (try clear c24); (try clear c26); (try clear c28); (try clear c40); (try clear c49); (try clear c55); (try clear c58); (try clear c65); (try clear c76); (try clear c76b0); (try clear c76b1); (try clear c77); (try clear c77b0); (try clear c77b1); (try clear c78); (try clear c78b0); (try clear c78b1); (try clear c79); (try clear c81); (try clear c83); (try clear c85); (try clear c87); (try clear c87b0); (try clear c87b1); (try clear c88); (try clear c88b0); (try clear c88b1); (try clear c89); (try clear c91); (try clear c93); (try clear c95); (try clear c97); (try clear c99); (try clear c99b0); (try clear c99b1); (try clear c101); (try clear c106); (try clear c109); (try clear c113); (try clear c113b0); (try clear c113b1); (try clear c115); (try clear c118); (try clear c122); (try clear c122b0); (try clear c122b1); (try clear c124); (try clear c125); (try clear c125b0); (try clear c125b1); (try clear c126); (try clear c126b0); (try clear c126b1); (try clear c128); (try clear c131); (try clear hcz102_0); (try clear hcz102_1); (try clear hcz102_2); (try clear hcz103_0); (try clear hcz103_1); (try clear hcz103_2); (try clear hcz103_3); (try clear hcz103_4); (try clear hcz10_0); (try clear hcz10_1); (try clear hcz10_2); (try clear hcz110_0); (try clear hcz110_1); (try clear hcz110_2); (try clear hcz111_0); (try clear hcz111_1); (try clear hcz111_2); (try clear hcz111_3); (try clear hcz111_4); (try clear hcz119_0); (try clear hcz119_1); (try clear hcz119_2); (try clear hcz120_0); (try clear hcz120_1); (try clear hcz120_2); (try clear hcz120_3); (try clear hcz120_4); (try clear hcz129_0); (try clear hcz129_1); (try clear hcz129_2); (try clear hcz129_3); (try clear hcz129_4); (try clear hcz12_0); (try clear hcz12_1); (try clear hcz12_2); (try clear hcz12_3); (try clear hcz12_4); (try clear hcz132_0); (try clear hcz132_1); (try clear hcz132_2); (try clear hcz132_3); (try clear hcz132_4); (try clear hcz15_0); (try clear hcz15_1); (try clear hcz15_2); (try clear hcz17_0); (try clear hcz17_1); (try clear hcz17_2); (try clear hcz17_3); (try clear hcz17_4); (try clear hcz20_0); (try clear hcz20_1); (try clear hcz20_2); (try clear hcz22_0); (try clear hcz22_1); (try clear hcz22_2); (try clear hcz22_3); (try clear hcz22_4); (try clear hcz29_0); (try clear hcz29_1); (try clear hcz29_2); (try clear hcz31_0); (try clear hcz31_1); (try clear hcz31_2); (try clear hcz31_3); (try clear hcz31_4); (try clear hcz32_0); (try clear hcz32_1); (try clear hcz32_2); (try clear hcz34_0); (try clear hcz34_1); (try clear hcz34_2); (try clear hcz35_0); (try clear hcz35_1); (try clear hcz35_2); (try clear hcz35_3); (try clear hcz35_4); (try clear hcz37_0); (try clear hcz37_1); (try clear hcz37_2); (try clear hcz38_0); (try clear hcz38_1); (try clear hcz38_2); (try clear hcz38_3); (try clear hcz38_4); (try clear hcz41_0); (try clear hcz41_1); (try clear hcz41_2); (try clear hcz43_0); (try clear hcz43_1); (try clear hcz43_2); (try clear hcz43_3); (try clear hcz43_4); (try clear hcz44_0); (try clear hcz44_1); (try clear hcz44_2); (try clear hcz46_0); (try clear hcz46_1); (try clear hcz46_2); (try clear hcz47_0); (try clear hcz47_1); (try clear hcz47_2); (try clear hcz47_3); (try clear hcz47_4); (try clear hcz50_0); (try clear hcz50_1); (try clear hcz50_2); (try clear hcz52_0); (try clear hcz52_1); (try clear hcz52_2); (try clear hcz52_3); (try clear hcz52_4); (try clear hcz53_0); (try clear hcz53_1); (try clear hcz53_2); (try clear hcz56_0); (try clear hcz56_1); (try clear hcz56_2); (try clear hcz66_0); (try clear hcz66_1); (try clear hcz66_2); (try clear hcz67_0); (try clear hcz67_1); (try clear hcz67_2); (try clear hcz67_3); (try clear hcz67_4); (try clear hcz69_0); (try clear hcz69_1); (try clear hcz69_2); (try clear hcz70_0); (try clear hcz70_1); (try clear hcz70_2); (try clear hcz70_3); (try clear hcz70_4); (try clear hcz72_0); (try clear hcz72_1); (try clear hcz72_2); (try clear hcz73_0); (try clear hcz73_1); (try clear hcz73_2); (try clear hcz73_3); (try clear hcz73_4); (try clear hcz84_0); (try clear hcz84_1); (try clear hcz84_2); (try clear hcz84_3); (try clear hcz84_4); (try clear hcz86_0); (try clear hcz86_1); (try clear hcz86_2); (try clear hcz86_3); (try clear hcz86_4); (try clear hcz94_0); (try clear hcz94_1); (try clear hcz94_2); (try clear hcz94_3); (try clear hcz94_4); (try clear hcz96_0); (try clear hcz96_1); (try clear hcz96_2); (try clear hcz96_3); (try clear hcz96_4); (try clear hfz102_0); (try clear hfz102_1); (try clear hfz102_2); (try clear hfz103_0); (try clear hfz103_1); (try clear hfz103_2); (try clear hfz103_3); (try clear hfz103_4); (try clear hfz10_0); (try clear hfz10_1); (try clear hfz10_2); (try clear hfz110_0); (try clear hfz110_1); (try clear hfz110_2); (try clear hfz111_0); (try clear hfz111_1); (try clear hfz111_2); (try clear hfz111_3); (try clear hfz111_4); (try clear hfz119_0); (try clear hfz119_1); (try clear hfz119_2); (try clear hfz120_0); (try clear hfz120_1); (try clear hfz120_2); (try clear hfz120_3); (try clear hfz120_4); (try clear hfz129_0); (try clear hfz129_1); (try clear hfz129_2); (try clear hfz129_3); (try clear hfz129_4); (try clear hfz12_0); (try clear hfz12_1); (try clear hfz12_2); (try clear hfz12_3); (try clear hfz12_4); (try clear hfz132_0); (try clear hfz132_1); (try clear hfz132_2); (try clear hfz132_3); (try clear hfz132_4); (try clear hfz15_0); (try clear hfz15_1); (try clear hfz15_2); (try clear hfz17_0); (try clear hfz17_1); (try clear hfz17_2); (try clear hfz17_3); (try clear hfz17_4); (try clear hfz20_0); (try clear hfz20_1); (try clear hfz20_2); (try clear hfz22_0); (try clear hfz22_1); (try clear hfz22_2); (try clear hfz22_3); (try clear hfz22_4); (try clear hfz29_0); (try clear hfz29_1); (try clear hfz29_2); (try clear hfz31_0); (try clear hfz31_1); (try clear hfz31_2); (try clear hfz31_3); (try clear hfz31_4); (try clear hfz32_0); (try clear hfz32_1); (try clear hfz32_2); (try clear hfz34_0); (try clear hfz34_1); (try clear hfz34_2); (try clear hfz35_0); (try clear hfz35_1); (try clear hfz35_2); (try clear hfz35_3); (try clear hfz35_4); (try clear hfz37_0); (try clear hfz37_1); (try clear hfz37_2); (try clear hfz38_0); (try clear hfz38_1); (try clear hfz38_2); (try clear hfz38_3); (try clear hfz38_4); (try clear hfz41_0); (try clear hfz41_1); (try clear hfz41_2); (try clear hfz43_0); (try clear hfz43_1); (try clear hfz43_2); (try clear hfz43_3); (try clear hfz43_4); (try clear hfz44_0); (try clear hfz44_1); (try clear hfz44_2); (try clear hfz46_0); (try clear hfz46_1); (try clear hfz46_2); (try clear hfz47_0); (try clear hfz47_1); (try clear hfz47_2); (try clear hfz47_3); (try clear hfz47_4); (try clear hfz50_0); (try clear hfz50_1); (try clear hfz50_2); (try clear hfz52_0); (try clear hfz52_1); (try clear hfz52_2); (try clear hfz52_3); (try clear hfz52_4); (try clear hfz53_0); (try clear hfz53_1); (try clear hfz53_2); (try clear hfz56_0); (try clear hfz56_1); (try clear hfz56_2); (try clear hfz66_0); (try clear hfz66_1); (try clear hfz66_2); (try clear hfz67_0); (try clear hfz67_1); (try clear hfz67_2); (try clear hfz67_3); (try clear hfz67_4); (try clear hfz69_0); (try clear hfz69_1); (try clear hfz69_2); (try clear hfz70_0); (try clear hfz70_1); (try clear hfz70_2); (try clear hfz70_3); (try clear hfz70_4); (try clear hfz72_0); (try clear hfz72_1); (try clear hfz72_2); (try clear hfz73_0); (try clear hfz73_1); (try clear hfz73_2); (try clear hfz73_3); (try clear hfz73_4); (try clear hfz84_0); (try clear hfz84_1); (try clear hfz84_2); (try clear hfz84_3); (try clear hfz84_4); (try clear hfz86_0); (try clear hfz86_1); (try clear hfz86_2); (try clear hfz86_3); (try clear hfz86_4); (try clear hfz94_0); (try clear hfz94_1); (try clear hfz94_2); (try clear hfz94_3); (try clear hfz94_4); (try clear hfz96_0); (try clear hfz96_1); (try clear hfz96_2); (try clear hfz96_3); (try clear hfz96_4); (try clear p2)
                  obtain ⟨kq, HA, HJ113, HO_5, BK366, BK367, HB⟩ := hcut
                  cases kq with
                  | zero => exact absurd HA.out (by simp [droppertop_TopOrder.j5])
                  | succ kj113 =>
                   have H := HA.out
                   clear HA
                   simp only [droppertop_TopOrder.j5] at H
                   replace H := Option.bind_eq_some_iff.mp H
                   obtain ⟨⟨t393, t394⟩, A1330, H⟩ := H
                   try dsimp only at H
                   have A133 := Aside0.mk A1330
                   clear A1330
                   have HC134 := Aside0.mk H
                   clear H
                   have hnb135 := NB366_367.out
                   have hnc135 := NB367_366.out
                   obtain ⟨hcz136_0, hcz136_1, hcz136_2⟩ := bc3 BK366.out
                   obtain ⟨hfz136_0, hfz136_1, hfz136_2⟩ := bf3 BK366.out
                   obtain ⟨hcz137_0, hcz137_1, hcz137_2, hcz137_3, hcz137_4⟩ := bc5 BK367.out
                   obtain ⟨hfz137_0, hfz137_1, hfz137_2, hfz137_3, hfz137_4⟩ := bf5 BK367.out
                   go_upto_region 18 with (first | (go_at_call 16; (with_reducible refine (dropperref05_IsShut.calls kj113 a0_0 _ _ l0_1 _ _ l0_2 _ _ l1_2 _ _ l1_4 t393 t394 _ (cbz HR0_1) HC0_1.out (cbz HR0_2) HC0_2.out (cbz HR1_2) HC1_2.out (cbz HR1_4) HC1_4.out A133.out).mono ?_); rintro e w138 ⟨rfl, hb⟩; replace HO_5 := Aside0.mk (Kd.R_below (ownx HO_5) hb); replace BK366 := Aside0.mk (blk_below (g := gb366) blkz hb); replace BK367 := Aside0.mk (blk_below (g := gb367) blkz hb); replace HB := Aside0.mk (below_step bel hb); clear hb))
                   repeat (go_quiet (first | (go_at_call 16; (with_reducible refine (dropperref05_IsShut.calls kj113 a0_0 _ _ l0_1 _ _ l0_2 _ _ l1_2 _ _ l1_4 t393 t394 _ (cbz HR0_1) HC0_1.out (cbz HR0_2) HC0_2.out (cbz HR1_2) HC1_2.out (cbz HR1_4) HC1_4.out A133.out).mono ?_); rintro e w138 ⟨rfl, hb⟩; replace HO_5 := Aside0.mk (Kd.R_below (ownx HO_5) hb); replace BK366 := Aside0.mk (blk_below (g := gb366) blkz hb); replace BK367 := Aside0.mk (blk_below (g := gb367) blkz hb); replace HB := Aside0.mk (below_step bel hb); clear hb)); go_upto_region 18 with (first | (go_at_call 16; (with_reducible refine (dropperref05_IsShut.calls kj113 a0_0 _ _ l0_1 _ _ l0_2 _ _ l1_2 _ _ l1_4 t393 t394 _ (cbz HR0_1) HC0_1.out (cbz HR0_2) HC0_2.out (cbz HR1_2) HC1_2.out (cbz HR1_4) HC1_4.out A133.out).mono ?_); rintro e w138 ⟨rfl, hb⟩; replace HO_5 := Aside0.mk (Kd.R_below (ownx HO_5) hb); replace BK366 := Aside0.mk (blk_below (g := gb366) blkz hb); replace BK367 := Aside0.mk (blk_below (g := gb367) blkz hb); replace HB := Aside0.mk (below_step bel hb); clear hb)))
                   (try simp only [Act.put, List.setIfInBounds_toArray, List.set_cons_zero, List.set_cons_succ])
                   go_cut [201] (fun v201 wc => ∃ (kq : Nat) (x201_133 : Bool), v201 = .bool x201_133 ∧ Aside0 (droppertop_TopOrder.j6 kq t373 x201_133 a1_0 a1_1 l1_2 l1_3 l1_4 = some r) ∧ Aside0 (kq ≤ kj113) ∧ Aside0 (Kd.R (Kd.int .i64) 3 wc w.heap.size (fun _ => True) (.slice Ao74 t373.length co74) t373) ∧ Aside0 (wc.heap[gb366]? = some (.cells #[.int .i64 a0_0, (.slice A0_1 l0_1.length c0_1), (.slice A0_2 l0_2.length c0_2)] 25 (0, 0))) ∧ Aside0 (wc.heap[gb367]? = some (.cells #[.int .i64 a1_0, .int .i64 a1_1, (.slice A1_2 l1_2.length c1_2), (.slice A1_3 l1_3.length c1_3), (.slice A1_4 l1_4.length c1_4)] 28 (0, 0))) ∧ Aside0 (Below w.heap.size w wc))
                   case first =>
                    have H := HC134.out
                    clear HC134
                    by_cases c139 : t394 = 0
                    ·
                     rw [if_pos c139] at H
                     have c139b0 : (t394 == 0) = true := beq_iff_eq.mpr c139
                     have c139b1 : (t394 != 0) = false := bne_eq_false_iff_eq.mpr c139
                     clear c139
                     (first | rw [c139b0] | (simp only [i64_w, i32_w]; rw [c139b0]) | skip)
                     by_cases c140 : t393 = true
                     ·
                      subst c140
                      rw [if_pos rfl] at H
                      replace H := Option.bind_eq_some_iff.mp H
                      obtain ⟨t395, A1410, H⟩ := H
                      try dsimp only at H
                      have A141 := Aside0.mk A1410
                      clear A1410
                      have H' := Aside0.mk H
                      clear H
                      have hnb142 := NB367_366.out
                      have hnc142 := NB366_367.out
                      obtain ⟨hcz143_0, hcz143_1, hcz143_2, hcz143_3, hcz143_4⟩ := bc5 BK367.out
                      obtain ⟨hfz143_0, hfz143_1, hfz143_2, hfz143_3, hfz143_4⟩ := bf5 BK367.out
                      go_wp2_with (first | (go_at_call 12; (with_reducible refine (droppertop_holds.calls kj113 _ _ l1_4 a1_0 t395 _ (cbz HR1_4) HC1_4.out A141.out).mono ?_); rintro e w' ⟨rfl, ⟨nd, rfl⟩⟩; (try first | exact ⟨rfl, _, World.drewN_drewN _ _ _⟩ | exact ⟨rfl, _, Eq.trans (World.drewN_drewN _ _ _) (congrArg (World.drewN _) (Nat.add_assoc _ _ _))⟩)))
                      repeat (go_quiet (first | (go_at_call 12; (with_reducible refine (droppertop_holds.calls kj113 _ _ l1_4 a1_0 t395 _ (cbz HR1_4) HC1_4.out A141.out).mono ?_); rintro e w' ⟨rfl, ⟨nd, rfl⟩⟩; (try first | exact ⟨rfl, _, World.drewN_drewN _ _ _⟩ | exact ⟨rfl, _, Eq.trans (World.drewN_drewN _ _ _) (congrArg (World.drewN _) (Nat.add_assoc _ _ _))⟩))); try go_wp2_with (first | (go_at_call 12; (with_reducible refine (droppertop_holds.calls kj113 _ _ l1_4 a1_0 t395 _ (cbz HR1_4) HC1_4.out A141.out).mono ?_); rintro e w' ⟨rfl, ⟨nd, rfl⟩⟩; (try first | exact ⟨rfl, _, World.drewN_drewN _ _ _⟩ | exact ⟨rfl, _, Eq.trans (World.drewN_drewN _ _ _) (congrArg (World.drewN _) (Nat.add_assoc _ _ _))⟩))))
                      go_meet
                      case rel => exact ⟨_, (t395), rsz, H', ⟨by have := HJ2.out; have := HJ63.out; have := HJ97.out; have := HJ107.out; have := HJ113.out; first | omega | exact Nat.le_refl _⟩, ⟨by (with_reducible repeat (first | apply Kd.R_alloc | apply Kd.R_drewN | apply Kd.R_drew)); exact HO_5.out⟩, ⟨blkz⟩, ⟨blkz⟩, ⟨bel⟩⟩
                     ·
                      replace c140 := Bool.eq_false_iff.mpr c140
                      subst c140
                      rw [if_neg (show ¬ (false = true) by decide)] at H
                      have H' := Aside0.mk H
                      clear H
                      go_wp2
                      repeat (go_quiet (fail); try go_wp2)
                      go_meet
                      case rel => exact ⟨_, (false), rsz, H', ⟨by have := HJ2.out; have := HJ63.out; have := HJ97.out; have := HJ107.out; have := HJ113.out; first | omega | exact Nat.le_refl _⟩, ⟨by (with_reducible repeat (first | apply Kd.R_alloc | apply Kd.R_drewN | apply Kd.R_drew)); exact HO_5.out⟩, ⟨blkz⟩, ⟨blkz⟩, ⟨bel⟩⟩
                    ·
                     rw [if_neg c139] at H
                     have c139b0 : (t394 == 0) = false := beq_eq_false_iff_ne.mpr c139
                     have c139b1 : (t394 != 0) = true := bne_iff_ne.mpr c139
                     (first | rw [c139b0] | (simp only [i64_w, i32_w]; rw [c139b0]) | skip)
                     have H' := Aside0.mk H
                     clear H
                     go_wp2
                     repeat (go_quiet (fail); try go_wp2)
                     go_meet
                     case rel => exact ⟨_, (false), rsz, H', ⟨by have := HJ2.out; have := HJ63.out; have := HJ97.out; have := HJ107.out; have := HJ113.out; first | omega | exact Nat.le_refl _⟩, ⟨by (with_reducible repeat (first | apply Kd.R_alloc | apply Kd.R_drewN | apply Kd.R_drew)); exact HO_5.out⟩, ⟨blkz⟩, ⟨blkz⟩, ⟨bel⟩⟩
                   case rest =>
                    as_aux_lemma =>
                     clear HC134
                     (try clear c1); (try clear c2); (try clear p2); (try clear c3); (try clear c4); (try clear c5); (try clear c6); (try clear c7); (try clear c8); (try clear c8b0); (try clear c8b1); (try clear c9); (try clear c10); (try clear c11); (try clear c12); (try clear c13); (try clear c13b0); (try clear c13b1); (try clear c14); (try clear c18); (try clear c18b0); (try clear c18b1); (try clear c19); (try clear c24); (try clear c26); (try clear c28); (try clear c40); (try clear c49); (try clear c55); (try clear c58); (try clear c65); (try clear c76); (try clear c76b0); (try clear c76b1); (try clear c77); (try clear c77b0); (try clear c77b1); (try clear c78); (try clear c78b0); (try clear c78b1); (try clear c79); (try clear c81); (try clear c83); (try clear c85); (try clear c87); (try clear c87b0); (try clear c87b1); (try clear c88); (try clear c88b0); (try clear c88b1); (try clear c89); (try clear c91); (try clear c93); (try clear c95); (try clear c97); (try clear c99); (try clear c99b0); (try clear c99b1); (try clear c101); (try clear c106); (try clear c109); (try clear c113); (try clear c113b0); (try clear c113b1); (try clear c115); (try clear c118); (try clear c122); (try clear c122b0); (try clear c122b1); (try clear c124); (try clear c125); (try clear c125b0); (try clear c125b1); (try clear c126); (try clear c126b0); (try clear c126b1); (try clear c128); (try clear c131); (try clear c135); (try clear c139); (try clear c139b0); (try clear c139b1); (try clear c140); (try clear c142); (try clear hcz102_0); (try clear hcz102_1); (try clear hcz102_2); (try clear hcz103_0); (try clear hcz103_1); (try clear hcz103_2); (try clear hcz103_3); (try clear hcz103_4); (try clear hcz10_0); (try clear hcz10_1); (try clear hcz10_2); (try clear hcz110_0); (try clear hcz110_1); (try clear hcz110_2); (try clear hcz111_0); (try clear hcz111_1); (try clear hcz111_2); (try clear hcz111_3); (try clear hcz111_4); (try clear hcz119_0); (try clear hcz119_1); (try clear hcz119_2); (try clear hcz120_0); (try clear hcz120_1); (try clear hcz120_2); (try clear hcz120_3); (try clear hcz120_4); (try clear hcz129_0); (try clear hcz129_1); (try clear hcz129_2); (try clear hcz129_3); (try clear hcz129_4); (try clear hcz12_0); (try clear hcz12_1); (try clear hcz12_2); (try clear hcz12_3); (try clear hcz12_4); (try clear hcz132_0); (try clear hcz132_1); (try clear hcz132_2); (try clear hcz132_3); (try clear hcz132_4); (try clear hcz136_0); (try clear hcz136_1); (try clear hcz136_2); (try clear hcz137_0); (try clear hcz137_1); (try clear hcz137_2); (try clear hcz137_3); (try clear hcz137_4); (try clear hcz143_0); (try clear hcz143_1); (try clear hcz143_2); (try clear hcz143_3); (try clear hcz143_4); (try clear hcz15_0); (try clear hcz15_1); (try clear hcz15_2); (try clear hcz17_0); (try clear hcz17_1); (try clear hcz17_2); (try clear hcz17_3); (try clear hcz17_4); (try clear hcz20_0); (try clear hcz20_1); (try clear hcz20_2); (try clear hcz22_0); (try clear hcz22_1); (try clear hcz22_2); (try clear hcz22_3); (try clear hcz22_4); (try clear hcz29_0); (try clear hcz29_1); (try clear hcz29_2); (try clear hcz31_0); (try clear hcz31_1); (try clear hcz31_2); (try clear hcz31_3); (try clear hcz31_4); (try clear hcz32_0); (try clear hcz32_1); (try clear hcz32_2); (try clear hcz34_0); (try clear hcz34_1); (try clear hcz34_2); (try clear hcz35_0); (try clear hcz35_1); (try clear hcz35_2); (try clear hcz35_3); (try clear hcz35_4); (try clear hcz37_0); (try clear hcz37_1); (try clear hcz37_2); (try clear hcz38_0); (try clear hcz38_1); (try clear hcz38_2); (try clear hcz38_3); (try clear hcz38_4); (try clear hcz41_0); (try clear hcz41_1); (try clear hcz41_2); (try clear hcz43_0); (try clear hcz43_1); (try clear hcz43_2); (try clear hcz43_3); (try clear hcz43_4); (try clear hcz44_0); (try clear hcz44_1); (try clear hcz44_2); (try clear hcz46_0); (try clear hcz46_1); (try clear hcz46_2); (try clear hcz47_0); (try clear hcz47_1); (try clear hcz47_2); (try clear hcz47_3); (try clear hcz47_4); (try clear hcz50_0); (try clear hcz50_1); (try clear hcz50_2); (try clear hcz52_0); (try clear hcz52_1); (try clear hcz52_2); (try clear hcz52_3); (try clear hcz52_4); (try clear hcz53_0); (try clear hcz53_1); (try clear hcz53_2); (try clear hcz56_0); (try clear hcz56_1); (try clear hcz56_2); (try clear hcz66_0); (try clear hcz66_1); (try clear hcz66_2); (try clear hcz67_0); (try clear hcz67_1); (try clear hcz67_2); (try clear hcz67_3); (try clear hcz67_4); (try clear hcz69_0); (try clear hcz69_1); (try clear hcz69_2); (try clear hcz70_0); (try clear hcz70_1); (try clear hcz70_2); (try clear hcz70_3); (try clear hcz70_4); (try clear hcz72_0); (try clear hcz72_1); (try clear hcz72_2); (try clear hcz73_0); (try clear hcz73_1); (try clear hcz73_2); (try clear hcz73_3); (try clear hcz73_4); (try clear hcz84_0); (try clear hcz84_1); (try clear hcz84_2); (try clear hcz84_3); (try clear hcz84_4); (try clear hcz86_0); (try clear hcz86_1); (try clear hcz86_2); (try clear hcz86_3); (try clear hcz86_4); (try clear hcz94_0); (try clear hcz94_1); (try clear hcz94_2); (try clear hcz94_3); (try clear hcz94_4); (try clear hcz96_0); (try clear hcz96_1); (try clear hcz96_2); (try clear hcz96_3); (try clear hcz96_4); (try clear hfz102_0); (try clear hfz102_1); (try clear hfz102_2); (try clear hfz103_0); (try clear hfz103_1); (try clear hfz103_2); (try clear hfz103_3); (try clear hfz103_4); (try clear hfz10_0); (try clear hfz10_1); (try clear hfz10_2); (try clear hfz110_0); (try clear hfz110_1); (try clear hfz110_2); (try clear hfz111_0); (try clear hfz111_1); (try clear hfz111_2); (try clear hfz111_3); (try clear hfz111_4); (try clear hfz119_0); (try clear hfz119_1); (try clear hfz119_2); (try clear hfz120_0); (try clear hfz120_1); (try clear hfz120_2); (try clear hfz120_3); (try clear hfz120_4); (try clear hfz129_0); (try clear hfz129_1); (try clear hfz129_2); (try clear hfz129_3); (try clear hfz129_4); (try clear hfz12_0); (try clear hfz12_1); (try clear hfz12_2); (try clear hfz12_3); (try clear hfz12_4); (try clear hfz132_0); (try clear hfz132_1); (try clear hfz132_2); (try clear hfz132_3); (try clear hfz132_4); (try clear hfz136_0); (try clear hfz136_1); (try clear hfz136_2); (try clear hfz137_0); (try clear hfz137_1); (try clear hfz137_2); (try clear hfz137_3); (try clear hfz137_4); (try clear hfz143_0); (try clear hfz143_1); (try clear hfz143_2); (try clear hfz143_3); (try clear hfz143_4); (try clear hfz15_0); (try clear hfz15_1); (try clear hfz15_2); (try clear hfz17_0); (try clear hfz17_1); (try clear hfz17_2); (try clear hfz17_3); (try clear hfz17_4); (try clear hfz20_0); (try clear hfz20_1); (try clear hfz20_2); (try clear hfz22_0); (try clear hfz22_1); (try clear hfz22_2); (try clear hfz22_3); (try clear hfz22_4); (try clear hfz29_0); (try clear hfz29_1); (try clear hfz29_2); (try clear hfz31_0); (try clear hfz31_1); (try clear hfz31_2); (try clear hfz31_3); (try clear hfz31_4); (try clear hfz32_0); (try clear hfz32_1); (try clear hfz32_2); (try clear hfz34_0); (try clear hfz34_1); (try clear hfz34_2); (try clear hfz35_0); (try clear hfz35_1); (try clear hfz35_2); (try clear hfz35_3); (try clear hfz35_4); (try clear hfz37_0); (try clear hfz37_1); (try clear hfz37_2); (try clear hfz38_0); (try clear hfz38_1); (try clear hfz38_2); (try clear hfz38_3); (try clear hfz38_4); (try clear hfz41_0); (try clear hfz41_1); (try clear hfz41_2); (try clear hfz43_0); (try clear hfz43_1); (try clear hfz43_2); (try clear hfz43_3); (try clear hfz43_4); (try clear hfz44_0); (try clear hfz44_1); (try clear hfz44_2); (try clear hfz46_0); (try clear hfz46_1); (try clear hfz46_2); (try clear hfz47_0); (try clear hfz47_1); (try clear hfz47_2); (try clear hfz47_3); (try clear hfz47_4); (try clear hfz50_0); (try clear hfz50_1); (try clear hfz50_2); (try clear hfz52_0); (try clear hfz52_1); (try clear hfz52_2); (try clear hfz52_3); (try clear hfz52_4); (try clear hfz53_0); (try clear hfz53_1); (try clear hfz53_2); (try clear hfz56_0); (try clear hfz56_1); (try clear hfz56_2); (try clear hfz66_0); (try clear hfz66_1); (try clear hfz66_2); (try clear hfz67_0); (try clear hfz67_1); (try clear hfz67_2); (try clear hfz67_3); (try clear hfz67_4); (try clear hfz69_0); (try clear hfz69_1); (try clear hfz69_2); (try clear hfz70_0); (try clear hfz70_1); (try clear hfz70_2); (try clear hfz70_3); (try clear hfz70_4); (try clear hfz72_0); (try clear hfz72_1); (try clear hfz72_2); (try clear hfz73_0); (try clear hfz73_1); (try clear hfz73_2); (try clear hfz73_3); (try clear hfz73_4); (try clear hfz84_0); (try clear hfz84_1); (try clear hfz84_2); (try clear hfz84_3); (try clear hfz84_4); (try clear hfz86_0); (try clear hfz86_1); (try clear hfz86_2); (try clear hfz86_3); (try clear hfz86_4); (try clear hfz94_0); (try clear hfz94_1); (try clear hfz94_2); (try clear hfz94_3); (try clear hfz94_4); (try clear hfz96_0); (try clear hfz96_1); (try clear hfz96_2); (try clear hfz96_3); (try clear hfz96_4); (try clear p2)
                     obtain ⟨kq, x201_133, rfl, HA, HJ133, HO_5, BK366, BK367, HB⟩ := hcut
                     cases kq with
                     | zero => exact absurd HA.out (by simp [droppertop_TopOrder.j6])
                     | succ kj133 =>
                      have H := HA.out
                      clear HA
                      simp only [droppertop_TopOrder.j6] at H
                      by_cases c144 : x201_133 = true
                      ·
                       subst c144
                       rw [if_pos rfl] at H
                       have H' := Aside0.mk H
                       clear H
                       go_wp2
                       repeat (go_quiet (fail); try go_wp2)
                       go_loopg [14] kj133 (fun kq v14 w' => ∃ (x14_7 : Int), v14 = .int .i64 x14_7 ∧ Aside0 (droppertop_TopOrder.l0 kq t373 x14_7 a1_0 a1_1 l1_2 l1_3 l1_4 = some r) ∧ Aside0 (kq ≤ kj133) ∧ Aside0 (Kd.R (Kd.int .i64) 3 w' w.heap.size (fun _ => True) (.slice Ao74 t373.length co74) t373) ∧ Aside0 (w'.heap[gb366]? = some (.cells #[.int .i64 a0_0, (.slice A0_1 l0_1.length c0_1), (.slice A0_2 l0_2.length c0_2)] 25 (0, 0))) ∧ Aside0 (w'.heap[gb367]? = some (.cells #[.int .i64 a1_0, .int .i64 a1_1, (.slice A1_2 l1_2.length c1_2), (.slice A1_3 l1_3.length c1_3), (.slice A1_4 l1_4.length c1_4)] 28 (0, 0))) ∧ Aside0 (Below w.heap.size w w'))
                       case atStart => exact ⟨(0), rsz, H', ⟨Nat.le_refl _⟩, ⟨by (with_reducible repeat (first | apply Kd.R_alloc | apply Kd.R_drewN | apply Kd.R_drew)); exact HO_5.out⟩, ⟨blkz⟩, ⟨blkz⟩, ⟨bel⟩⟩
                       case round =>
                        clear H'
                        (try clear c1); (try clear c2); (try clear p2); (try clear c3); (try clear c4); (try clear c5); (try clear c6); (try clear c7); (try clear c8); (try clear c8b0); (try clear c8b1); (try clear c9); (try clear c10); (try clear c11); (try clear c12); (try clear c13); (try clear c13b0); (try clear c13b1); (try clear c14); (try clear c18); (try clear c18b0); (try clear c18b1); (try clear c19); (try clear c24); (try clear c26); (try clear c28); (try clear c40); (try clear c49); (try clear c55); (try clear c58); (try clear c65); (try clear c76); (try clear c76b0); (try clear c76b1); (try clear c77); (try clear c77b0); (try clear c77b1); (try clear c78); (try clear c78b0); (try clear c78b1); (try clear c79); (try clear c81); (try clear c83); (try clear c85); (try clear c87); (try clear c87b0); (try clear c87b1); (try clear c88); (try clear c88b0); (try clear c88b1); (try clear c89); (try clear c91); (try clear c93); (try clear c95); (try clear c97); (try clear c99); (try clear c99b0); (try clear c99b1); (try clear c101); (try clear c106); (try clear c109); (try clear c113); (try clear c113b0); (try clear c113b1); (try clear c115); (try clear c118); (try clear c122); (try clear c122b0); (try clear c122b1); (try clear c124); (try clear c125); (try clear c125b0); (try clear c125b1); (try clear c126); (try clear c126b0); (try clear c126b1); (try clear c128); (try clear c131); (try clear c135); (try clear c139); (try clear c139b0); (try clear c139b1); (try clear c140); (try clear c142); (try clear c144); (try clear hcz102_0); (try clear hcz102_1); (try clear hcz102_2); (try clear hcz103_0); (try clear hcz103_1); (try clear hcz103_2); (try clear hcz103_3); (try clear hcz103_4); (try clear hcz10_0); (try clear hcz10_1); (try clear hcz10_2); (try clear hcz110_0); (try clear hcz110_1); (try clear hcz110_2); (try clear hcz111_0); (try clear hcz111_1); (try clear hcz111_2); (try clear hcz111_3); (try clear hcz111_4); (try clear hcz119_0); (try clear hcz119_1); (try clear hcz119_2); (try clear hcz120_0); (try clear hcz120_1); (try clear hcz120_2); (try clear hcz120_3); (try clear hcz120_4); (try clear hcz129_0); (try clear hcz129_1); (try clear hcz129_2); (try clear hcz129_3); (try clear hcz129_4); (try clear hcz12_0); (try clear hcz12_1); (try clear hcz12_2); (try clear hcz12_3); (try clear hcz12_4); (try clear hcz132_0); (try clear hcz132_1); (try clear hcz132_2); (try clear hcz132_3); (try clear hcz132_4); (try clear hcz136_0); (try clear hcz136_1); (try clear hcz136_2); (try clear hcz137_0); (try clear hcz137_1); (try clear hcz137_2); (try clear hcz137_3); (try clear hcz137_4); (try clear hcz143_0); (try clear hcz143_1); (try clear hcz143_2); (try clear hcz143_3); (try clear hcz143_4); (try clear hcz15_0); (try clear hcz15_1); (try clear hcz15_2); (try clear hcz17_0); (try clear hcz17_1); (try clear hcz17_2); (try clear hcz17_3); (try clear hcz17_4); (try clear hcz20_0); (try clear hcz20_1); (try clear hcz20_2); (try clear hcz22_0); (try clear hcz22_1); (try clear hcz22_2); (try clear hcz22_3); (try clear hcz22_4); (try clear hcz29_0); (try clear hcz29_1); (try clear hcz29_2); (try clear hcz31_0); (try clear hcz31_1); (try clear hcz31_2); (try clear hcz31_3); (try clear hcz31_4); (try clear hcz32_0); (try clear hcz32_1); (try clear hcz32_2); (try clear hcz34_0); (try clear hcz34_1); (try clear hcz34_2); (try clear hcz35_0); (try clear hcz35_1); (try clear hcz35_2); (try clear hcz35_3); (try clear hcz35_4); (try clear hcz37_0); (try clear hcz37_1); (try clear hcz37_2); (try clear hcz38_0); (try clear hcz38_1); (try clear hcz38_2); (try clear hcz38_3); (try clear hcz38_4); (try clear hcz41_0); (try clear hcz41_1); (try clear hcz41_2); (try clear hcz43_0); (try clear hcz43_1); (try clear hcz43_2); (try clear hcz43_3); (try clear hcz43_4); (try clear hcz44_0); (try clear hcz44_1); (try clear hcz44_2); (try clear hcz46_0); (try clear hcz46_1); (try clear hcz46_2); (try clear hcz47_0); (try clear hcz47_1); (try clear hcz47_2); (try clear hcz47_3); (try clear hcz47_4); (try clear hcz50_0); (try clear hcz50_1); (try clear hcz50_2); (try clear hcz52_0); (try clear hcz52_1); (try clear hcz52_2); (try clear hcz52_3); (try clear hcz52_4); (try clear hcz53_0); (try clear hcz53_1); (try clear hcz53_2); (try clear hcz56_0); (try clear hcz56_1); (try clear hcz56_2); (try clear hcz66_0); (try clear hcz66_1); (try clear hcz66_2); (try clear hcz67_0); (try clear hcz67_1); (try clear hcz67_2); (try clear hcz67_3); (try clear hcz67_4); (try clear hcz69_0); (try clear hcz69_1); (try clear hcz69_2); (try clear hcz70_0); (try clear hcz70_1); (try clear hcz70_2); (try clear hcz70_3); (try clear hcz70_4); (try clear hcz72_0); (try clear hcz72_1); (try clear hcz72_2); (try clear hcz73_0); (try clear hcz73_1); (try clear hcz73_2); (try clear hcz73_3); (try clear hcz73_4); (try clear hcz84_0); (try clear hcz84_1); (try clear hcz84_2); (try clear hcz84_3); (try clear hcz84_4); (try clear hcz86_0); (try clear hcz86_1); (try clear hcz86_2); (try clear hcz86_3); (try clear hcz86_4); (try clear hcz94_0); (try clear hcz94_1); (try clear hcz94_2); (try clear hcz94_3); (try clear hcz94_4); (try clear hcz96_0); (try clear hcz96_1); (try clear hcz96_2); (try clear hcz96_3); (try clear hcz96_4); (try clear hfz102_0); (try clear hfz102_1); (try clear hfz102_2); (try clear hfz103_0); (try clear hfz103_1); (try clear hfz103_2); (try clear hfz103_3); (try clear hfz103_4); (try clear hfz10_0); (try clear hfz10_1); (try clear hfz10_2); (try clear hfz110_0); (try clear hfz110_1); (try clear hfz110_2); (try clear hfz111_0); (try clear hfz111_1); (try clear hfz111_2); (try clear hfz111_3); (try clear hfz111_4); (try clear hfz119_0); (try clear hfz119_1); (try clear hfz119_2); (try clear hfz120_0); (try clear hfz120_1); (try clear hfz120_2); (try clear hfz120_3); (try clear hfz120_4); (try clear hfz129_0); (try clear hfz129_1); (try clear hfz129_2); (try clear hfz129_3); (try clear hfz129_4); (try clear hfz12_0); (try clear hfz12_1); (try clear hfz12_2); (try clear hfz12_3); (try clear hfz12_4); (try clear hfz132_0); (try clear hfz132_1); (try clear hfz132_2); (try clear hfz132_3); (try clear hfz132_4); (try clear hfz136_0); (try clear hfz136_1); (try clear hfz136_2); (try clear hfz137_0); (try clear hfz137_1); (try clear hfz137_2); (try clear hfz137_3); (try clear hfz137_4); (try clear hfz143_0); (try clear hfz143_1); (try clear hfz143_2); (try clear hfz143_3); (try clear hfz143_4); (try clear hfz15_0); (try clear hfz15_1); (try clear hfz15_2); (try clear hfz17_0); (try clear hfz17_1); (try clear hfz17_2); (try clear hfz17_3); (try clear hfz17_4); (try clear hfz20_0); (try clear hfz20_1); (try clear hfz20_2); (try clear hfz22_0); (try clear hfz22_1); (try clear hfz22_2); (try clear hfz22_3); (try clear hfz22_4); (try clear hfz29_0); (try clear hfz29_1); (try clear hfz29_2); (try clear hfz31_0); (try clear hfz31_1); (try clear hfz31_2); (try clear hfz31_3); (try clear hfz31_4); (try clear hfz32_0); (try clear hfz32_1); (try clear hfz32_2); (try clear hfz34_0); (try clear hfz34_1); (try clear hfz34_2); (try clear hfz35_0); (try clear hfz35_1); (try clear hfz35_2); (try clear hfz35_3); (try clear hfz35_4); (try clear hfz37_0); (try clear hfz37_1); (try clear hfz37_2); (try clear hfz38_0); (try clear hfz38_1); (try clear hfz38_2); (try clear hfz38_3); (try clear hfz38_4); (try clear hfz41_0); (try clear hfz41_1); (try clear hfz41_2); (try clear hfz43_0); (try clear hfz43_1); (try clear hfz43_2); (try clear hfz43_3); (try clear hfz43_4); (try clear hfz44_0); (try clear hfz44_1); (try clear hfz44_2); (try clear hfz46_0); (try clear hfz46_1); (try clear hfz46_2); (try clear hfz47_0); (try clear hfz47_1); (try clear hfz47_2); (try clear hfz47_3); (try clear hfz47_4); (try clear hfz50_0); (try clear hfz50_1); (try clear hfz50_2); (try clear hfz52_0); (try clear hfz52_1); (try clear hfz52_2); (try clear hfz52_3); (try clear hfz52_4); (try clear hfz53_0); (try clear hfz53_1); (try clear hfz53_2); (try clear hfz56_0); (try clear hfz56_1); (try clear hfz56_2); (try clear hfz66_0); (try clear hfz66_1); (try clear hfz66_2); (try clear hfz67_0); (try clear hfz67_1); (try clear hfz67_2); (try clear hfz67_3); (try clear hfz67_4); (try clear hfz69_0); (try clear hfz69_1); (try clear hfz69_2); (try clear hfz70_0); (try clear hfz70_1); (try clear hfz70_2); (try clear hfz70_3); (try clear hfz70_4); (try clear hfz72_0); (try clear hfz72_1); (try clear hfz72_2); (try clear hfz73_0); (try clear hfz73_1); (try clear hfz73_2); (try clear hfz73_3); (try clear hfz73_4); (try clear hfz84_0); (try clear hfz84_1); (try clear hfz84_2); (try clear hfz84_3); (try clear hfz84_4); (try clear hfz86_0); (try clear hfz86_1); (try clear hfz86_2); (try clear hfz86_3); (try clear hfz86_4); (try clear hfz94_0); (try clear hfz94_1); (try clear hfz94_2); (try clear hfz94_3); (try clear hfz94_4); (try clear hfz96_0); (try clear hfz96_1); (try clear hfz96_2); (try clear hfz96_3); (try clear hfz96_4); (try clear p2)
                        obtain ⟨x14_7, rfl, HA, HK7, HO_5, BK366, BK367, HB⟩ := hrel
                        cases gk with
                        | zero => exact absurd HA.out (by simp [droppertop_TopOrder.l0])
                        | succ k7 =>
                         have H := HA.out
                         clear HA
                         simp only [droppertop_TopOrder.l0] at H
                         by_cases c145 : x14_7 < (t373.length : Int)
                         ·
                          rw [if_pos c145] at H
                          have c145b0 : decide (x14_7 < (t373.length : Int)) = true := decide_eq_true c145
                          clear c145
                          by_cases c146 : 0 ≤ x14_7
                          ·
                           rw [if_pos c146] at H
                           have c146b0 : decide (0 ≤ x14_7) = true := decide_eq_true c146
                           clear c146
                           replace H := Option.bind_eq_some_iff.mp H
                           obtain ⟨t397, A1470, H⟩ := H
                           try dsimp only at H
                           have A147 := Aside0.mk A1470
                           clear A1470
                           by_cases c148 : t397 = true
                           ·
                            subst c148
                            rw [if_pos rfl] at H
                            have H' := Aside0.mk H
                            clear H
                            have hnb149 := NB367_366.out
                            have hnc149 := NB366_367.out
                            obtain ⟨hcz150_0, hcz150_1, hcz150_2, hcz150_3, hcz150_4⟩ := bc5 BK367.out
                            obtain ⟨hfz150_0, hfz150_1, hfz150_2, hfz150_3, hfz150_4⟩ := bf5 BK367.out
                            have p396 : 0 ≤ (x14_7 : Int) := of_decide_eq_true asz
                            have q396 : x14_7 < (t373.length : Int) := of_decide_eq_true asz
                            obtain ⟨ad396, e396, hx396_0⟩ := Kd.at_int (Kd.R_reads' HO_5.out).2.2 x14_7 p396 q396
                            cases e396
                            replace p396 := eq_true p396
                            replace q396 := eq_true q396
                            go_wp2_with (first | (go_at_call 12; (with_reducible refine (droppertop_holds.calls k7 _ _ l1_4 (rd t373 x14_7) true _ (cbz HR1_4) HC1_4.out A147.out).mono ?_); rintro e w' ⟨rfl, ⟨nd, rfl⟩⟩; (try first | exact ⟨rfl, _, World.drewN_drewN _ _ _⟩ | exact ⟨rfl, _, Eq.trans (World.drewN_drewN _ _ _) (congrArg (World.drewN _) (Nat.add_assoc _ _ _))⟩)))
                            repeat (go_quiet (first | (go_at_call 12; (with_reducible refine (droppertop_holds.calls k7 _ _ l1_4 (rd t373 x14_7) true _ (cbz HR1_4) HC1_4.out A147.out).mono ?_); rintro e w' ⟨rfl, ⟨nd, rfl⟩⟩; (try first | exact ⟨rfl, _, World.drewN_drewN _ _ _⟩ | exact ⟨rfl, _, Eq.trans (World.drewN_drewN _ _ _) (congrArg (World.drewN _) (Nat.add_assoc _ _ _))⟩))); try go_wp2_with (first | (go_at_call 12; (with_reducible refine (droppertop_holds.calls k7 _ _ l1_4 (rd t373 x14_7) true _ (cbz HR1_4) HC1_4.out A147.out).mono ?_); rintro e w' ⟨rfl, ⟨nd, rfl⟩⟩; (try first | exact ⟨rfl, _, World.drewN_drewN _ _ _⟩ | exact ⟨rfl, _, Eq.trans (World.drewN_drewN _ _ _) (congrArg (World.drewN _) (Nat.add_assoc _ _ _))⟩))))
                            go_roundg k7
                            case measure => have := HJ2.out; have := HJ63.out; have := HJ97.out; have := HJ107.out; have := HJ113.out; have := HJ133.out; have := HK7.out; omega
                            case rel => exact ⟨(wrap64 (x14_7 + 1)), rsz, H', ⟨by have := HJ2.out; have := HJ63.out; have := HJ97.out; have := HJ107.out; have := HJ113.out; have := HJ133.out; have := HK7.out; omega⟩, ⟨by (with_reducible repeat (first | apply Kd.R_alloc | apply Kd.R_drewN | apply Kd.R_drew)); exact HO_5.out⟩, ⟨blkz⟩, ⟨blkz⟩, ⟨bel⟩⟩
                           ·
                            replace c148 := Bool.eq_false_iff.mpr c148
                            subst c148
                            rw [if_neg (show ¬ (false = true) by decide)] at H
                            exact absurd H (by simp)
                          ·
                           rw [if_neg c146] at H
                           exact absurd H (by simp)
                         ·
                          rw [if_neg c145] at H
                          have c145b0 : decide (x14_7 < (t373.length : Int)) = false := decide_eq_false c145
                          clear c145
                          replace H := Option.bind_eq_some_iff.mp H
                          obtain ⟨t398, A1510, H⟩ := H
                          try dsimp only at H
                          have A151 := Aside0.mk A1510
                          clear A1510
                          obtain rfl := Option.some.inj H
                          go_wp2_with (first | (go_at_call 8; (with_reducible refine (dropperlaw05_First.calls k7  t398 _ (tbz HT) A151.out).mono ?_); rintro e w152 ⟨rfl, hb⟩; replace HO_5 := Aside0.mk (Kd.R_below (ownx HO_5) hb); replace BK366 := Aside0.mk (blk_below (g := gb366) blkz hb); replace BK367 := Aside0.mk (blk_below (g := gb367) blkz hb); replace HB := Aside0.mk (below_step bel hb); clear hb))
                          repeat (go_quiet (first | (go_at_call 8; (with_reducible refine (dropperlaw05_First.calls k7  t398 _ (tbz HT) A151.out).mono ?_); rintro e w152 ⟨rfl, hb⟩; replace HO_5 := Aside0.mk (Kd.R_below (ownx HO_5) hb); replace BK366 := Aside0.mk (blk_below (g := gb366) blkz hb); replace BK367 := Aside0.mk (blk_below (g := gb367) blkz hb); replace HB := Aside0.mk (below_step bel hb); clear hb)); try go_wp2_with (first | (go_at_call 8; (with_reducible refine (dropperlaw05_First.calls k7  t398 _ (tbz HT) A151.out).mono ?_); rintro e w152 ⟨rfl, hb⟩; replace HO_5 := Aside0.mk (Kd.R_below (ownx HO_5) hb); replace BK366 := Aside0.mk (blk_below (g := gb366) blkz hb); replace BK367 := Aside0.mk (blk_below (g := gb367) blkz hb); replace HB := Aside0.mk (below_step bel hb); clear hb)))
                          go_ret
                          exact ⟨ezz, bel⟩
                      ·
                       replace c144 := Bool.eq_false_iff.mpr c144
                       subst c144
                       rw [if_neg (show ¬ (false = true) by decide)] at H
                       replace H := Option.bind_eq_some_iff.mp H
                       obtain ⟨t399, A1530, H⟩ := H
                       try dsimp only at H
                       have A153 := Aside0.mk A1530
                       clear A1530
                       obtain rfl := Option.some.inj H
                       go_wp2_with (first | (go_at_call 8; (with_reducible refine (dropperlaw05_First.calls kj133  t399 _ (tbz HT) A153.out).mono ?_); rintro e w154 ⟨rfl, hb⟩; replace HO_5 := Aside0.mk (Kd.R_below (ownx HO_5) hb); replace BK366 := Aside0.mk (blk_below (g := gb366) blkz hb); replace BK367 := Aside0.mk (blk_below (g := gb367) blkz hb); replace HB := Aside0.mk (below_step bel hb); clear hb))
                       repeat (go_quiet (first | (go_at_call 8; (with_reducible refine (dropperlaw05_First.calls kj133  t399 _ (tbz HT) A153.out).mono ?_); rintro e w154 ⟨rfl, hb⟩; replace HO_5 := Aside0.mk (Kd.R_below (ownx HO_5) hb); replace BK366 := Aside0.mk (blk_below (g := gb366) blkz hb); replace BK367 := Aside0.mk (blk_below (g := gb367) blkz hb); replace HB := Aside0.mk (below_step bel hb); clear hb)); try go_wp2_with (first | (go_at_call 8; (with_reducible refine (dropperlaw05_First.calls kj133  t399 _ (tbz HT) A153.out).mono ?_); rintro e w154 ⟨rfl, hb⟩; replace HO_5 := Aside0.mk (Kd.R_below (ownx HO_5) hb); replace BK366 := Aside0.mk (blk_below (g := gb366) blkz hb); replace BK367 := Aside0.mk (blk_below (g := gb367) blkz hb); replace HB := Aside0.mk (below_step bel hb); clear hb)))
                       go_ret
                       exact ⟨ezz, bel⟩

end Go.Proofs.YtldifdmfefpglaaDoor.XFeed
-- Written by wip/xprint.py of this repo, over the kit's print.py: out of the translation; the oracles in it are by hand. Not trusted: Lean checks it.
namespace Go.Proofs.YtldifdmfefpglaaDoor.XFeed
open Go.RowKit Go.Proofs.YtldifdmfefpglaaDoor.XFeed Go.Proofs.YtldifdmfefpglaaDoorW.PrintWords Go.Proofs.YtldifdmfefpglaaDoorW.PrintLast Go.Proofs.YtldifdmfefpglaaDoorW.PrintMore
def droppertop_TopOrder.Pure : Prop := ∀ (a0_0 : Int) (l0_1 : List (S47)) (l0_2 : List (S49)) (a1_0 : Int) (a1_1 : Int) (l1_2 : List Int) (l1_3 : List Int) (l1_4 : List Int), ((Lit.int .i64 a0_0).wf = true) → (l0_1.length ≤ 9223372036854775807 ∧ ∀ y0 ∈ l0_1, ((Lit.int .i64 y0.f0).wf = true) ∧ ((Lit.int .i64 y0.f1).wf = true)) → (l0_2.length ≤ 9223372036854775807 ∧ ∀ y0 ∈ l0_2, ((Lit.int .i64 y0.f0).wf = true) ∧ ((Lit.int .i64 y0.f1).wf = true)) → ((Lit.int .i64 a1_0).wf = true) → ((Lit.int .i64 a1_1).wf = true) → (l1_2.length ≤ 9223372036854775807 ∧ ∀ y0 ∈ l1_2, (Lit.int .i64 y0).wf = true) → (l1_3.length ≤ 9223372036854775807 ∧ ∀ y0 ∈ l1_3, (Lit.int .i64 y0).wf = true) → (l1_4.length ≤ 9223372036854775807 ∧ ∀ y0 ∈ l1_4, (Lit.int .i64 y0).wf = true) → ∃ k, droppertop_TopOrder.f k a0_0 l0_1 l0_2 a1_0 a1_1 l1_2 l1_3 l1_4 = some true
end Go.Proofs.YtldifdmfefpglaaDoor.XFeed


/- Go's bit operations on small numbers, as those of Nat. -/
namespace Go.Proofs.YtldifdmfefpglaaDoor.Plain
open Go.RowKit Go.Proofs.YtldifdmfefpglaaDoorW.PrintWords Go.Proofs.YtldifdmfefpglaaDoorW.PrintLast Go.Proofs.YtldifdmfefpglaaDoorW.PrintMore

theorem wrapU {n : Nat} (h : n < 2 ^ 62) : IntKind.u64.wrap (n : Int) = (n : Int) := by
 have e : IntKind.u64.wrap (n : Int) = (n : Int) % 18446744073709551616 := by simp [IntKind.wrap, IntKind.bits, IntKind.signed]
 rw [e]; omega
theorem wrapI {n : Nat} (h : n < 2 ^ 62) : IntKind.i64.wrap (n : Int) = (n : Int) := by
 rw [IntKind.wrap_i64]; omega
theorem ofInt_nat {w n : Nat} : BitVec.ofInt w (n : Int) = BitVec.ofNat w n := by simp
theorem and_u {x y : Nat} (hx : x < 2 ^ 62) (hy : y < 2 ^ 62) : Go.bits .and .u64 (x : Int) (y : Int) = ((x &&& y : Nat) : Int) := by
 have h : x &&& y < 2 ^ 62 := Nat.and_lt_two_pow x hy
 simp only [Go.bits, ofInt_nat, BitVec.toNat_and, BitVec.toNat_ofNat]
 rw [show IntKind.u64.bits = 64 from rfl, Nat.mod_eq_of_lt (show x < 2 ^ 64 by omega), Nat.mod_eq_of_lt (show y < 2 ^ 64 by omega)]
 exact wrapU h
theorem or_u {x y : Nat} (hx : x < 2 ^ 62) (hy : y < 2 ^ 62) : Go.bits .or .u64 (x : Int) (y : Int) = ((x ||| y : Nat) : Int) := by
 have h : x ||| y < 2 ^ 62 := Nat.or_lt_two_pow hx hy
 simp only [Go.bits, ofInt_nat, BitVec.toNat_or, BitVec.toNat_ofNat]
 rw [show IntKind.u64.bits = 64 from rfl, Nat.mod_eq_of_lt (show x < 2 ^ 64 by omega), Nat.mod_eq_of_lt (show y < 2 ^ 64 by omega)]
 exact wrapU h
theorem and_i {x y : Nat} (hx : x < 2 ^ 62) (hy : y < 2 ^ 62) : Go.bits .and .i64 (x : Int) (y : Int) = ((x &&& y : Nat) : Int) := by
 have h : x &&& y < 2 ^ 62 := Nat.and_lt_two_pow x hy
 simp only [Go.bits, ofInt_nat, BitVec.toNat_and, BitVec.toNat_ofNat]
 rw [show IntKind.i64.bits = 64 from rfl, Nat.mod_eq_of_lt (show x < 2 ^ 64 by omega), Nat.mod_eq_of_lt (show y < 2 ^ 64 by omega)]
 exact wrapI h
theorem xor_i {x y : Nat} (hx : x < 2 ^ 62) (hy : y < 2 ^ 62) : Go.bits .xor .i64 (x : Int) (y : Int) = ((x ^^^ y : Nat) : Int) := by
 have h : x ^^^ y < 2 ^ 62 := Nat.xor_lt_two_pow hx hy
 simp only [Go.bits, ofInt_nat, BitVec.toNat_xor, BitVec.toNat_ofNat]
 rw [show IntKind.i64.bits = 64 from rfl, Nat.mod_eq_of_lt (show x < 2 ^ 64 by omega), Nat.mod_eq_of_lt (show y < 2 ^ 64 by omega)]
 exact wrapI h
theorem shr_k {k : IntKind} (hk : k.bits = 64) {x i : Nat} (hi : i ≤ 64) : shr k (x : Int) (i : Int) = ((x >>> i : Nat) : Int) := by
 unfold shr
 rw [hk, Int.toNat_natCast, Nat.min_eq_left hi, Nat.shiftRight_eq_div_pow]
 simp
theorem shl_u {x i : Nat} (h : x * 2 ^ i < 2 ^ 62) (hi : i ≤ 64) : shl .u64 (x : Int) (i : Int) = ((x <<< i : Nat) : Int) := by
 unfold shl
 rw [show IntKind.u64.bits = 64 from rfl, Int.toNat_natCast, Nat.min_eq_left hi, Nat.shiftLeft_eq]
 have e : (x : Int) * 2 ^ i = ((x * 2 ^ i : Nat) : Int) := by simp
 rw [e]; exact wrapU h
theorem shl_i {x i : Nat} (h : x * 2 ^ i < 2 ^ 62) (hi : i ≤ 64) : shl .i64 (x : Int) (i : Int) = ((x <<< i : Nat) : Int) := by
 unfold shl
 rw [show IntKind.i64.bits = 64 from rfl, Int.toNat_natCast, Nat.min_eq_left hi, Nat.shiftLeft_eq]
 have e : (x : Int) * 2 ^ i = ((x * 2 ^ i : Nat) : Int) := by simp
 rw [e]; exact wrapI h
theorem bit_u {x i : Nat} (hx : x < 2 ^ 62) (hi : i ≤ 64) : Go.bits .and .u64 (shr .u64 (x : Int) (i : Int)) 1 = (if x.testBit i then 1 else 0 : Int) := by
 have h : x >>> i < 2 ^ 62 := Nat.lt_of_le_of_lt (by rw [Nat.shiftRight_eq_div_pow]; exact Nat.div_le_self _ _) hx
 rw [shr_k rfl hi, show (1 : Int) = ((1 : Nat) : Int) from rfl, and_u h (by omega), Nat.testBit, Nat.and_comm]
 have : 1 &&& x >>> i = (x >>> i) % 2 := by rw [Nat.and_comm, Nat.and_one_is_mod]
 rw [this]
 rcases Nat.mod_two_eq_zero_or_one (x >>> i) with h | h <;> simp [h]
theorem bit_i {x i : Nat} (hx : x < 2 ^ 62) (hi : i ≤ 64) : Go.bits .and .i64 (shr .i64 (x : Int) (i : Int)) 1 = (if x.testBit i then 1 else 0 : Int) := by
 have h : x >>> i < 2 ^ 62 := Nat.lt_of_le_of_lt (by rw [Nat.shiftRight_eq_div_pow]; exact Nat.div_le_self _ _) hx
 rw [shr_k rfl hi, show (1 : Int) = ((1 : Nat) : Int) from rfl, and_i h (by omega), Nat.testBit, Nat.and_comm]
 have : 1 &&& x >>> i = (x >>> i) % 2 := by rw [Nat.and_comm, Nat.and_one_is_mod]
 rw [this]
 rcases Nat.mod_two_eq_zero_or_one (x >>> i) with h | h <;> simp [h]
end Go.Proofs.YtldifdmfefpglaaDoor.Plain


/- The sections to which one comes over closed switches, as the program reckons them. -/
namespace Go.Proofs.YtldifdmfefpglaaDoor.Plain
set_option linter.unusedVariables false
set_option linter.unusedSimpArgs false
open Go.RowKit Go.Proofs.YtldifdmfefpglaaDoor.XFeed Go.Proofs.YtldifdmfefpglaaDoorW.PrintWords Go.Proofs.YtldifdmfefpglaaDoorW.PrintLast Go.Proofs.YtldifdmfefpglaaDoorW.PrintMore

theorem ev_const {α : Type} {o : Option α} {r : α} (h : o = some r) : Ev (fun _ => o) r := ⟨0, fun _ _ => h⟩
theorem ev_pos {α : Type} {c : Prop} [Decidable c] {a b : Nat → Option α} {r : α} (hc : c) (h : Ev a r) : Ev (fun k => if c then a k else b k) r :=
 Ev.congr (fun k => if_pos hc) h
theorem ev_neg {α : Type} {c : Prop} [Decidable c] {a b : Nat → Option α} {r : α} (hc : ¬ c) (h : Ev b r) : Ev (fun k => if c then a k else b k) r :=
 Ev.congr (fun k => if_neg hc) h
theorem ev_some {α β : Type} {a : α} {f : Nat → α → Option β} {r : β} (h : Ev (fun k => f k a) r) : Ev (fun k => (some a).bind (f k)) r := h
theorem wrap_id {x : Int} (h0 : -9223372036854775808 ≤ x) (h1 : x ≤ 9223372036854775807) : wrap64 x = x := by unfold wrap64; omega
theorem wrap_succ (n : Nat) (h : n ≤ 4000000000000000000) : wrap64 ((n : Int) + 1) = ((n + 1 : Nat) : Int) := by rw [wrap_id] <;> omega

def SwOk (n : Nat) (sw : List S47) : Prop := ∀ s ∈ sw, 0 ≤ s.f0 ∧ s.f0 < n ∧ 0 ≤ s.f1 ∧ s.f1 < n ∧ s.f0 ≠ s.f1
def Edge (sw : List S47) (st a b : Nat) : Prop := ∃ i, ∃ h : i < sw.length, st.testBit i = true ∧ ((sw[i].f0 = a ∧ sw[i].f1 = b) ∨ (sw[i].f0 = b ∧ sw[i].f1 = a))
inductive Conn (sw : List S47) (st : Nat) (a : Nat) : Nat → Prop
 | refl : Conn sw st a a
 | step {b c : Nat} : Conn sw st a b → Edge sw st b c → Conn sw st a c
theorem rd_S69 (xs : List S47) (i : Nat) (h : i < xs.length) : rd_T47 xs (i : Int) = xs[i] := by simp [rd_T47, List.getD_eq_getElem?_getD, h]

def two (a b : Nat) : Nat := 1 <<< a ||| 1 <<< b
theorem two_bit (a b j : Nat) : (two a b).testBit j = (decide (j = a) || decide (j = b)) := by
 simp only [two, Nat.testBit_or, Nat.one_shiftLeft, Nat.testBit_two_pow]
 rw [show decide (a = j) = decide (j = a) from decide_eq_decide.2 eq_comm, show decide (b = j) = decide (j = b) from decide_eq_decide.2 eq_comm]
theorem two_lt {a b : Nat} (ha : a < 8) (hb : b < 8) : two a b < 256 := by
 have h1 : 1 <<< a < 2 ^ 8 := by rw [Nat.one_shiftLeft]; exact Nat.pow_lt_pow_right (by decide) ha
 have h2 : 1 <<< b < 2 ^ 8 := by rw [Nat.one_shiftLeft]; exact Nat.pow_lt_pow_right (by decide) hb
 exact Nat.or_lt_two_pow h1 h2
theorem and_two_zero {m a b : Nat} : m &&& two a b = 0 ↔ m.testBit a = false ∧ m.testBit b = false := by
 constructor
 ·
  intro h
  have h2 := fun j => congrArg (fun x => x.testBit j) h
  simp only [Nat.testBit_and, two_bit, Nat.zero_testBit] at h2
  exact ⟨by simpa using h2 a, by simpa using h2 b⟩
 ·
  rintro ⟨h1, h2⟩
  apply Nat.eq_of_testBit_eq
  intro j
  simp only [Nat.testBit_and, two_bit, Nat.zero_testBit]
  by_cases ha : j = a
  ·
   subst ha; simp [h1]
  ·
   by_cases hb : j = b
   ·
    subst hb; simp [h2]
   ·
    simp [ha, hb]
theorem and_two_all {m a b : Nat} : m &&& two a b = two a b ↔ m.testBit a = true ∧ m.testBit b = true := by
 constructor
 ·
  intro h
  have h2 := fun j => congrArg (fun x => x.testBit j) h
  simp only [Nat.testBit_and, two_bit] at h2
  exact ⟨by simpa using h2 a, by simpa using h2 b⟩
 ·
  rintro ⟨h1, h2⟩
  apply Nat.eq_of_testBit_eq
  intro j
  simp only [Nat.testBit_and, two_bit]
  by_cases ha : j = a
  ·
   subst ha; simp [h1]
  ·
   by_cases hb : j = b
   ·
    subst hb; simp [h2]
   ·
    simp [ha, hb]
def Sound (sw : List S47) (st a m : Nat) : Prop := m < 256 ∧ m.testBit a = true ∧ ∀ j, m.testBit j = true → Conn sw st a j
def Even (sw : List S47) (st m i : Nat) : Prop := ∀ j, ∀ h : j < sw.length, j < i → st.testBit j = true → m.testBit (sw[j].f0).toNat = m.testBit (sw[j].f1).toNat
theorem conn_of_even {sw : List S47} {st a m : Nat} (hs : Sound sw st a m) (he : Even sw st m sw.length) {j : Nat} (h : Conn sw st a j) : m.testBit j = true := by
 induction h with
 | refl => exact hs.2.1
 | step _ e ih =>
  obtain ⟨i, hi, hb, h | h⟩ := e
  ·
   have := he i hi hi hb
   rw [h.1, h.2, Int.toNat_natCast, Int.toNat_natCast] at this
   rw [← this]; exact ih
  ·
   have := he i hi hi hb
   rw [h.1, h.2, Int.toNat_natCast, Int.toNat_natCast] at this
   rw [this]; exact ih
theorem or_two_sound {sw : List S47} {st a m : Nat} (hs : Sound sw st a m) {i : Nat} (hi : i < sw.length) (hb : st.testBit i = true) {x y : Nat} (hx : sw[i].f0 = x) (hy : sw[i].f1 = y) (hx8 : x < 8) (hy8 : y < 8)
  (h : m.testBit x = true ∨ m.testBit y = true) : Sound sw st a (m ||| two x y) := by
 have hlt8 : m ||| two x y < 2 ^ 8 := Nat.or_lt_two_pow hs.1 (two_lt hx8 hy8)
 refine ⟨hlt8, by rw [Nat.testBit_or, hs.2.1]; rfl, fun j hj => ?_⟩
 rw [Nat.testBit_or, two_bit] at hj
 have e1 : Edge sw st x y := ⟨i, hi, hb, .inl ⟨hx, hy⟩⟩
 have e2 : Edge sw st y x := ⟨i, hi, hb, .inr ⟨hx, hy⟩⟩
 by_cases hm : m.testBit j = true
 ·
  exact hs.2.2 j hm
 ·
  have hm2 : m.testBit j = false := by simpa using hm
  rw [hm2, Bool.false_or] at hj
  have hj2 : j = x ∨ j = y := by simpa using hj
  rcases hj2 with rfl | rfl
  ·
   rcases h with h | h
   ·
    exact hs.2.2 _ h
   ·
    exact Conn.step (hs.2.2 _ h) e2
  ·
   rcases h with h | h
   ·
    exact Conn.step (hs.2.2 _ h) e1
   ·
    exact hs.2.2 _ h
theorem or_gt {m t : Nat} (h : m &&& t ≠ t) : m < m ||| t := by
 refine Nat.lt_of_le_of_ne Nat.left_le_or (fun e => h ?_)
 have : (m ||| t) &&& t = t := by
  apply Nat.eq_of_testBit_eq
  intro j
  rw [Nat.testBit_and, Nat.testBit_or]
  cases m.testBit j <;> cases t.testBit j <;> rfl
 rw [← e] at this
 exact this
def Group (sw : List S47) (st a m : Nat) : Prop := Sound sw st a m ∧ Even sw st m sw.length
theorem group_l1 (n : Int) (sw : List S47) (fe : List S49) (hsw : SwOk 8 sw) (hlen : sw.length ≤ 20) (st a : Nat) (hst : st < 2 ^ 20) (m0 : Nat)
  (IH : ∀ m, m0 < m → Sound sw st a m → ∃ r, Ev (fun k => feed_grid_group.l0 k (st : Int) (m : Int) true n sw fe) ((r : Nat) : Int) ∧ Group sw st a r) :
  ∀ (d i m : Nat) (b : Bool), i + d = sw.length → Sound sw st a m → (b = false → m = m0 ∧ Even sw st m0 i) → (b = true → m0 < m) →
  ∃ r, Ev (fun k => feed_grid_group.l1 k (st : Int) (m : Int) b sw (sw.length : Int) (i : Int) n sw fe) ((r : Nat) : Int) ∧ Group sw st a r := by
 intro d
 induction d with
 | zero =>
  intro i m b hi hs hf ht
  obtain rfl : i = sw.length := by omega
  cases b with
  | true =>
   obtain ⟨r, h1, h2⟩ := IH m (ht rfl) hs
   refine ⟨r, ?_, h2⟩
   refine Ev.step (fun k => by rw [feed_grid_group.l1]) ?_
   exact ev_neg (by omega) h1
  | false =>
   obtain ⟨rfl, he⟩ := hf rfl
   refine ⟨m, ?_, hs, he⟩
   refine Ev.step (fun k => by rw [feed_grid_group.l1]) (ev_neg (by omega) ?_)
   refine Ev.step (fun k => by rw [feed_grid_group.l0]) ?_
   exact ev_neg (by simp) (Ev.now _)
 | succ d ih =>
  intro i m b hi hs hf ht
  have hlt : i < sw.length := by omega
  have hm := hs.1
  obtain ⟨x0, x1, y0, y1, hxy⟩ := hsw sw[i] (List.getElem_mem hlt)
  obtain ⟨x, hx⟩ := Int.eq_ofNat_of_zero_le x0
  obtain ⟨y, hy⟩ := Int.eq_ofNat_of_zero_le y0
  have hx8 : x < 8 := by omega
  have hy8 : y < 8 := by omega
  have ht2 := two_lt hx8 hy8
  have start : ∀ r : Nat, Ev (fun k => if (Go.bits .and .i64 (shr .i64 (st : Int) (i : Int)) 1) = 0 then feed_grid_group.l1 k (st : Int) (m : Int) b sw (sw.length : Int) (wrap64 ((i : Int) + 1)) n sw fe else (if 0 ≤ ((rd_T47 sw (i : Int)).f0) then (if 0 ≤ ((rd_T47 sw (i : Int)).f1) then (if (Go.bits .and .u64 (m : Int) (Go.bits .or .u64 (shl .u64 1 ((rd_T47 sw (i : Int)).f0)) (shl .u64 1 ((rd_T47 sw (i : Int)).f1)))) = 0 then (feed_grid_group.l1 k (st : Int) (m : Int) b sw (sw.length : Int) (wrap64 ((i : Int) + 1)) n sw fe) else (if (Go.bits .and .u64 (m : Int) (Go.bits .or .u64 (shl .u64 1 ((rd_T47 sw (i : Int)).f0)) (shl .u64 1 ((rd_T47 sw (i : Int)).f1)))) = (Go.bits .or .u64 (shl .u64 1 ((rd_T47 sw (i : Int)).f0)) (shl .u64 1 ((rd_T47 sw (i : Int)).f1))) then (feed_grid_group.l1 k (st : Int) (m : Int) b sw (sw.length : Int) (wrap64 ((i : Int) + 1)) n sw fe) else (feed_grid_group.l1 k (st : Int) (Go.bits .or .u64 (m : Int) (Go.bits .or .u64 (shl .u64 1 ((rd_T47 sw (i : Int)).f0)) (shl .u64 1 ((rd_T47 sw (i : Int)).f1)))) true sw (sw.length : Int) (wrap64 ((i : Int) + 1)) n sw fe))) else (none)) else (none))) (r : Int) →
    Ev (fun k => feed_grid_group.l1 k (st : Int) (m : Int) b sw (sw.length : Int) (i : Int) n sw fe) (r : Int) := by
   intro r h
   refine Ev.step (fun k => by rw [feed_grid_group.l1]) ?_
   exact ev_pos (by omega) (ev_pos (by omega) (ev_pos (by omega) h))
  rw [rd_S69 sw i hlt, hx, hy] at start
  have e1 : shl .u64 1 ((x : Nat) : Int) = ((1 <<< x : Nat) : Int) := shl_u (x := 1) (by rw [Nat.one_mul]; exact Nat.lt_of_lt_of_le (Nat.pow_lt_pow_right (by decide) hx8) (by decide)) (by omega)
  have e2 : shl .u64 1 ((y : Nat) : Int) = ((1 <<< y : Nat) : Int) := shl_u (x := 1) (by rw [Nat.one_mul]; exact Nat.lt_of_lt_of_le (Nat.pow_lt_pow_right (by decide) hy8) (by decide)) (by omega)
  have s1 : 1 <<< x < 2 ^ 62 := by rw [Nat.one_shiftLeft]; exact Nat.lt_of_lt_of_le (Nat.pow_lt_pow_right (by decide) hx8) (by decide)
  have s2 : 1 <<< y < 2 ^ 62 := by rw [Nat.one_shiftLeft]; exact Nat.lt_of_lt_of_le (Nat.pow_lt_pow_right (by decide) hy8) (by decide)
  have e3 : Go.bits .or .u64 ((1 <<< x : Nat) : Int) ((1 <<< y : Nat) : Int) = ((two x y : Nat) : Int) := or_u s1 s2
  have e4 : Go.bits .and .u64 (m : Int) ((two x y : Nat) : Int) = ((m &&& two x y : Nat) : Int) := and_u (by omega) (by omega)
  have e5 : Go.bits .or .u64 (m : Int) ((two x y : Nat) : Int) = ((m ||| two x y : Nat) : Int) := or_u (by omega) (by omega)
  rw [e1, e2, e3, e4, e5, bit_i (by omega) (by omega), wrap_succ i (by omega)] at start
  have keep : ∀ (hE : st.testBit i = true → m.testBit x = m.testBit y), b = false → m = m0 ∧ Even sw st m0 (i + 1) := by
   intro hE hb
   obtain ⟨rfl, he⟩ := hf hb
   refine ⟨rfl, fun j hj hji hjb => ?_⟩
   by_cases h : j < i
   ·
    exact he j hj h hjb
   ·
    obtain rfl : j = i := by omega
    rw [hx, hy, Int.toNat_natCast, Int.toNat_natCast]
    exact hE hjb
  by_cases hbit : st.testBit i = true
  ·
   rw [if_pos hbit] at start
   by_cases hz : m &&& two x y = 0
   ·
    have hz2 := and_two_zero.1 hz
    obtain ⟨r, h1, h2⟩ := ih (i + 1) m b (by omega) hs (keep fun _ => by rw [hz2.1, hz2.2]) ht
    exact ⟨r, start r (ev_neg (by decide) (ev_pos (by omega) (ev_pos (by omega) (ev_pos (by omega) h1)))), h2⟩
   ·
    by_cases ha : m &&& two x y = two x y
    ·
     have ha2 := and_two_all.1 ha
     obtain ⟨r, h1, h2⟩ := ih (i + 1) m b (by omega) hs (keep fun _ => by rw [ha2.1, ha2.2]) ht
     exact ⟨r, start r (ev_neg (by decide) (ev_pos (by omega) (ev_pos (by omega) (ev_neg (by omega) (ev_pos (by omega) h1))))), h2⟩
    ·
     have hor : m.testBit x = true ∨ m.testBit y = true := by
      by_cases h1 : m.testBit x = true
      ·
       exact .inl h1
      ·
       by_cases h2 : m.testBit y = true
       ·
        exact .inr h2
       ·
        exact absurd (and_two_zero.2 ⟨by simpa using h1, by simpa using h2⟩) hz
     have hgt := or_gt ha
     have hm0 : m0 < m ||| two x y := by
      cases b with
      | true => have := ht rfl; omega
      | false => have := (hf rfl).1; omega
     obtain ⟨r, h1, h2⟩ := ih (i + 1) (m ||| two x y) true (by omega) (or_two_sound hs hlt hbit hx hy hx8 hy8 hor) (fun h => by cases h) (fun _ => hm0)
     exact ⟨r, start r (ev_neg (by decide) (ev_pos (by omega) (ev_pos (by omega) (ev_neg (by omega) (ev_neg (by omega) h1))))), h2⟩
  ·
   rw [if_neg hbit] at start
   obtain ⟨r, h1, h2⟩ := ih (i + 1) m b (by omega) hs (keep fun h => absurd h hbit) ht
   exact ⟨r, start r (ev_pos rfl h1), h2⟩
theorem group_l0 (n : Int) (sw : List S47) (fe : List S49) (hsw : SwOk 8 sw) (hlen : sw.length ≤ 20) (st a : Nat) (hst : st < 2 ^ 20) :
  ∀ (q m : Nat), 256 - m ≤ q → Sound sw st a m → ∃ r, Ev (fun k => feed_grid_group.l0 k (st : Int) (m : Int) true n sw fe) ((r : Nat) : Int) ∧ Group sw st a r := by
 intro q
 induction q with
 | zero => intro m hq hs; have := hs.1; omega
 | succ q ih =>
  intro m hq hs
  have hm := hs.1
  obtain ⟨r, h1, h2⟩ := group_l1 n sw fe hsw hlen st a hst m (fun m' hm' hs' => ih m' (by omega) hs') sw.length 0 m false (by omega) hs (fun _ => ⟨rfl, fun j hj hji => by omega⟩) (fun h => by cases h)
  refine ⟨r, ?_, h2⟩
  refine Ev.step (fun k => by rw [feed_grid_group.l0]) ?_
  exact ev_pos rfl h1
theorem group_ev (n : Int) (sw : List S47) (fe : List S49) (hsw : SwOk 8 sw) (hlen : sw.length ≤ 20) (st a : Nat) (hst : st < 2 ^ 20) (ha : a < 8) :
  ∃ r : Nat, Ev (fun k => feed_grid_group.f k n sw fe (st : Int) (a : Int)) ((r : Nat) : Int) ∧ r < 256 ∧ ∀ j, r.testBit j = true ↔ Conn sw st a j := by
 have e1 : shl .u64 1 ((a : Nat) : Int) = ((1 <<< a : Nat) : Int) := shl_u (x := 1) (by rw [Nat.one_mul]; exact Nat.lt_of_lt_of_le (Nat.pow_lt_pow_right (by decide) ha) (by decide)) (by omega)
 have hs : Sound sw st a (1 <<< a) := by
  refine ⟨by rw [Nat.one_shiftLeft]; exact Nat.lt_of_lt_of_le (Nat.pow_lt_pow_right (by decide) ha) (by decide), by rw [Nat.one_shiftLeft, Nat.testBit_two_pow]; simp, fun j hj => ?_⟩
  rw [Nat.one_shiftLeft, Nat.testBit_two_pow] at hj
  obtain rfl : a = j := by simpa using hj
  exact Conn.refl
 obtain ⟨r, h1, h2⟩ := group_l0 n sw fe hsw hlen st a hst 256 (1 <<< a) (Nat.sub_le _ _) hs
 refine ⟨r, ?_, h2.1.1, fun j => ⟨h2.1.2.2 j, fun h => conn_of_even h2.1 h2.2 h⟩⟩
 unfold feed_grid_group.f
 rw [e1]
 exact ev_pos (by omega) h1
end Go.Proofs.YtldifdmfefpglaaDoor.Plain


/- With which phases the sections are fed, as the program reckons them. -/
namespace Go.Proofs.YtldifdmfefpglaaDoor.Plain
set_option linter.unusedVariables false
set_option linter.unusedSimpArgs false
open Go.RowKit Go.Proofs.YtldifdmfefpglaaDoor.XFeed Go.Proofs.YtldifdmfefpglaaDoorW.PrintWords Go.Proofs.YtldifdmfefpglaaDoorW.PrintLast Go.Proofs.YtldifdmfefpglaaDoorW.PrintMore

def FeOk (n : Nat) (fe : List S49) : Prop := ∀ f ∈ fe, 0 ≤ f.f0 ∧ f.f0 < n ∧ 1 ≤ f.f1 ∧ f.f1 ≤ 3
def Mask (sw : List S47) (st : Nat) (fs : List S49) (i m : Nat) : Prop :=
 m < 16 ∧ ∀ p, m.testBit p = true ↔ ∃ f ∈ fs, f.f1 = (p : Int) ∧ Conn sw st f.f0.toNat i
theorem rd_S71 (xs : List S49) (i : Nat) (h : i < xs.length) : rd_T49 xs (i : Int) = xs[i] := by simp [rd_T49, List.getD_eq_getElem?_getD, h]
theorem rd_set (l : List Int) (i j : Nat) (v : Int) (hi : i < l.length) : rd (l.set i v) (j : Int) = if j = i then v else rd l (j : Int) := by
 simp only [rd, Int.toNat_natCast, List.getD_eq_getElem?_getD, List.getElem?_set]
 by_cases h : i = j
 ·
  subst h; simp [hi]
 ·
  rw [if_neg h, if_neg (fun e => h e.symm)]
theorem mask_no {sw : List S47} {st : Nat} {fs : List S49} {f : S49} {i m : Nat} (h : Mask sw st fs i m) (hn : ¬ Conn sw st f.f0.toNat i) : Mask sw st (fs ++ [f]) i m := by
 refine ⟨h.1, fun p => ?_⟩
 rw [h.2 p]
 constructor
 ·
  rintro ⟨x, hx, h1, h2⟩; exact ⟨x, List.mem_append_left _ hx, h1, h2⟩
 ·
  rintro ⟨x, hx, h1, h2⟩
  rcases List.mem_append.1 hx with hx | hx
  ·
   exact ⟨x, hx, h1, h2⟩
  ·
   obtain rfl : x = f := by simpa using hx
   exact absurd h2 hn
theorem mask_yes {sw : List S47} {st : Nat} {fs : List S49} {f : S49} {i m q : Nat} (h : Mask sw st fs i m) (hc : Conn sw st f.f0.toNat i) (hq : f.f1 = (q : Int)) (hq4 : q < 4) : Mask sw st (fs ++ [f]) i (m ||| 1 <<< q) := by
 have hlt : m ||| 1 <<< q < 2 ^ 4 := Nat.or_lt_two_pow h.1 (by rw [Nat.one_shiftLeft]; exact Nat.pow_lt_pow_right (by decide) hq4)
 refine ⟨hlt, fun p => ?_⟩
 rw [Nat.testBit_or, Bool.or_eq_true, h.2 p, Nat.one_shiftLeft, Nat.testBit_two_pow, decide_eq_true_eq]
 constructor
 ·
  rintro (⟨x, hx, h1, h2⟩ | rfl)
  ·
   exact ⟨x, List.mem_append_left _ hx, h1, h2⟩
  ·
   exact ⟨f, by simp, hq, hc⟩
 ·
  rintro ⟨x, hx, h1, h2⟩
  rcases List.mem_append.1 hx with hx | hx
  ·
   exact .inl ⟨x, hx, h1, h2⟩
  ·
   obtain rfl : x = f := by simpa using hx
   right; omega
def Fed (sw : List S47) (st n : Nat) (fs : List S49) (l : List Int) : Prop := l.length = n ∧ ∀ i, i < n → ∃ m, rd l (i : Int) = ((m : Nat) : Int) ∧ Mask sw st fs i m
theorem fed_l1 (n : Nat) (hn : n ≤ 8) (sw : List S47) (fe : List S49) (st : Nat) (f : S49) (hf : 1 ≤ f.f1 ∧ f.f1 ≤ 3) (fs : List S49) (q : Nat) (g : Nat) (hg : g < 256) (hgc : ∀ j, g.testBit j = true ↔ Conn sw st f.f0.toNat j)
  (hend : ∀ l', Fed sw st n (fs ++ [f]) l' → ∃ r, Ev (fun k => feed_grid_fed.l0 k (st : Int) l' fe (fe.length : Int) (wrap64 ((q : Int) + 1)) (n : Int) sw fe) r ∧ Fed sw st n fe r) :
  ∀ (d i : Nat) (l : List Int), i + d = n → l.length = n → (∀ j, j < n → ∃ m, rd l (j : Int) = ((m : Nat) : Int) ∧ Mask sw st (if j < i then fs ++ [f] else fs) j m) →
  ∃ r, Ev (fun k => feed_grid_fed.l1 k (st : Int) l (g : Int) fe (fe.length : Int) (q : Int) (n : Int) (i : Int) (n : Int) sw fe f.f0 f.f1) r ∧ Fed sw st n fe r := by
 intro d
 induction d with
 | zero =>
  intro i l hi hl hm
  obtain rfl : i = n := by omega
  obtain ⟨r, h1, h2⟩ := hend l ⟨hl, fun j hj => by
   obtain ⟨m, e, h⟩ := hm j hj
   rw [if_pos hj] at h
   exact ⟨m, e, h⟩⟩
  refine ⟨r, ?_, h2⟩
  refine Ev.step (fun k => by rw [feed_grid_fed.l1]) ?_
  exact ev_neg (by omega) h1
 | succ d ih =>
  intro i l hi hl hm
  obtain ⟨m, e, h⟩ := hm i (by omega)
  rw [if_neg (by omega)] at h
  have hm16 := h.1
  have hb := bit_u (x := g) (i := i) (by omega) (by omega)
  by_cases hc : g.testBit i = true
  ·
   have hcc := (hgc i).1 hc
   rw [if_pos hc] at hb
   obtain ⟨p, hp⟩ := Int.eq_ofNat_of_zero_le (show 0 ≤ f.f1 by omega)
   have s1 : 1 <<< p < 2 ^ 62 := by rw [Nat.one_shiftLeft]; exact Nat.lt_of_lt_of_le (Nat.pow_lt_pow_right (by decide) (show p < 4 by omega)) (by decide)
   have e1 : shl .u64 1 ((p : Nat) : Int) = ((1 <<< p : Nat) : Int) := shl_u (x := 1) (by rw [Nat.one_mul]; exact Nat.lt_of_lt_of_le (Nat.pow_lt_pow_right (by decide) (show p < 4 by omega)) (by decide)) (by omega)
   have e2 : Go.bits .or .u64 (m : Int) ((1 <<< p : Nat) : Int) = ((m ||| 1 <<< p : Nat) : Int) := or_u (by omega) s1
   obtain ⟨r, h1, h2⟩ := ih (i + 1) (l.set i ((m ||| 1 <<< p : Nat) : Int)) (by omega) (by rw [List.length_set]; exact hl) (fun j hj => by
    rw [rd_set _ _ _ _ (by omega)]
    by_cases hji : j = i
    ·
     subst hji
     rw [if_pos rfl, if_pos (by omega)]
     exact ⟨_, rfl, mask_yes h hcc hp (by omega)⟩
    ·
     rw [if_neg hji]
     obtain ⟨m', e', h'⟩ := hm j hj
     refine ⟨m', e', ?_⟩
     by_cases hlt : j < i
     ·
      rw [if_pos hlt] at h'; rw [if_pos (by omega)]; exact h'
     ·
      rw [if_neg hlt] at h'; rw [if_neg (by omega)]; exact h')
   refine ⟨r, ?_, h2⟩
   refine Ev.step (fun k => by rw [feed_grid_fed.l1]) ?_
   rw [hb, e, hp, e1, e2, wrap_succ i (by omega), Int.toNat_natCast]
   rw [hp] at h1
   exact ev_pos (by omega) (ev_pos (by omega) (ev_pos rfl (ev_pos (by omega) (ev_pos (by omega) h1))))
  ·
   rw [if_neg hc] at hb
   obtain ⟨r, h1, h2⟩ := ih (i + 1) l (by omega) hl (fun j hj => by
    obtain ⟨m', e', h'⟩ := hm j hj
    refine ⟨m', e', ?_⟩
    by_cases hji : j = i
    ·
     subst hji
     rw [if_neg (by omega)] at h'
     rw [if_pos (by omega)]
     exact mask_no h' (fun hx => hc ((hgc j).2 hx))
    ·
     by_cases hlt : j < i
     ·
      rw [if_pos hlt] at h'; rw [if_pos (by omega)]; exact h'
     ·
      rw [if_neg hlt] at h'; rw [if_neg (by omega)]; exact h')
   refine ⟨r, ?_, h2⟩
   refine Ev.step (fun k => by rw [feed_grid_fed.l1]) ?_
   rw [hb, wrap_succ i (by omega)]
   exact ev_pos (by omega) (ev_pos (by omega) (ev_neg (by decide) h1))
theorem fed_l0 (n : Nat) (hn : n ≤ 8) (sw : List S47) (hsw : SwOk 8 sw) (hlen : sw.length ≤ 20) (fe : List S49) (hfe : FeOk n fe) (hfl : fe.length ≤ 20) (st : Nat) (hst : st < 2 ^ 20) :
  ∀ (d q : Nat) (l : List Int), q + d = fe.length → Fed sw st n (fe.take q) l → ∃ r, Ev (fun k => feed_grid_fed.l0 k (st : Int) l fe (fe.length : Int) (q : Int) (n : Int) sw fe) r ∧ Fed sw st n fe r := by
 intro d
 induction d with
 | zero =>
  intro q l hq hl
  obtain rfl : q = fe.length := by omega
  rw [List.take_length] at hl
  refine ⟨l, ?_, hl⟩
  refine Ev.step (fun k => by rw [feed_grid_fed.l0]) ?_
  exact ev_neg (by omega) (Ev.now _)
 | succ d ih =>
  intro q l hq hl
  have hlt : q < fe.length := by omega
  obtain ⟨f0, f1, f2, f3⟩ := hfe fe[q] (List.getElem_mem hlt)
  have htk : fe.take (q + 1) = fe.take q ++ [fe[q]] := List.take_succ_eq_append_getElem hlt
  obtain ⟨g, hg1, hg2, hg3⟩ := group_ev (n : Int) sw fe hsw hlen st fe[q].f0.toNat hst (by omega)
  rw [Int.toNat_of_nonneg f0] at hg1
  obtain ⟨r, h1, h2⟩ := fed_l1 n hn sw fe st fe[q] ⟨f2, f3⟩ (fe.take q) q g hg2 hg3 (fun l' hl' => by
   rw [wrap_succ q (by omega)]
   rw [← htk] at hl'
   exact ih (q + 1) l' (by omega) hl') n 0 l (by omega) hl.1 (fun j hj => by rw [if_neg (by omega)]; exact hl.2 j hj)
  refine ⟨r, ?_, h2⟩
  refine Ev.step (fun k => by rw [feed_grid_fed.l0]) ?_
  rw [rd_S71 fe q hlt]
  refine ev_pos (by omega) (ev_pos (by omega) (ev_pos (by omega) (Ev.bind hg1 ?_)))
  rw [hl.1]
  exact h1
theorem fed_ev (n : Nat) (hn : n ≤ 8) (sw : List S47) (hsw : SwOk 8 sw) (hlen : sw.length ≤ 20) (fe : List S49) (hfe : FeOk n fe) (hfl : fe.length ≤ 20) (st : Nat) (hst : st < 2 ^ 20) :
  ∃ r, Ev (fun k => feed_grid_fed.f k (n : Int) sw fe (st : Int)) r ∧ Fed sw st n fe r := by
 obtain ⟨r, h1, h2⟩ := fed_l0 n hn sw hsw hlen fe hfe hfl st hst fe.length 0 (List.replicate n 0) (by omega) ⟨List.length_replicate, fun i hi => ⟨0, by simp [rd, hi], by decide, fun p => by simp⟩⟩
 refine ⟨r, ?_, h2⟩
 unfold feed_grid_fed.f
 rw [Int.toNat_natCast]
 exact ev_pos (by omega) (ev_pos (by omega) h1)
end Go.Proofs.YtldifdmfefpglaaDoor.Plain


/- Which grids are as described: program and document say the same. -/
namespace Go.Proofs.YtldifdmfefpglaaDoor.Plain
set_option linter.unusedVariables false
set_option linter.unusedSimpArgs false
open Go.RowKit Go.Proofs.YtldifdmfefpglaaDoor.XFeed Go.Proofs.YtldifdmfefpglaaDoorW.PrintWords Go.Proofs.YtldifdmfefpglaaDoorW.PrintLast Go.Proofs.YtldifdmfefpglaaDoorW.PrintMore

def SwIs (N : Int) (s : S47) : Prop := 0 ≤ s.f0 ∧ s.f0 < N ∧ 0 ≤ s.f1 ∧ s.f1 < N ∧ s.f0 ≠ s.f1
def FeIs (N : Int) (f : S49) : Prop := 0 ≤ f.f0 ∧ f.f0 < N ∧ 1 ≤ f.f1 ∧ f.f1 ≤ 3
def GridOk (N : Int) (sw : List S47) (fe : List S49) : Prop :=
 1 ≤ N ∧ N ≤ 8 ∧ sw.length ≤ 10 ∧ fe.length ≤ 6 ∧ (∀ s ∈ sw, SwIs N s) ∧ ∀ f ∈ fe, FeIs N f
theorem bad1_iff {N : Int} (h1 : 1 ≤ N) (h2 : N ≤ 8) (s : S47) : feed_Valid.bad1 N s = true ↔ ¬ SwIs N s := by
 unfold feed_Valid.bad1 SwIs
 rw [wrap_id (x := N - 1) (by omega) (by omega)]
 simp only [Bool.or_eq_true, Bool.not_eq_true', Bool.and_eq_false_iff, decide_eq_false_iff_not, beq_iff_eq]
 omega
theorem bad2_iff {N : Int} (h1 : 1 ≤ N) (h2 : N ≤ 8) (f : S49) : feed_Valid.bad2 N f = true ↔ ¬ FeIs N f := by
 unfold feed_Valid.bad2 FeIs
 rw [wrap_id (x := N - 1) (by omega) (by omega)]
 simp only [Bool.or_eq_true, Bool.not_eq_true', Bool.and_eq_false_iff, decide_eq_false_iff_not]
 omega
open Classical in
theorem valid_f (N : Int) (sw : List S47) (fe : List S49) : feed_Valid.f N sw fe = some (decide (GridOk N sw fe)) := by
 unfold feed_Valid.f
 congr 1
 rw [Bool.eq_iff_iff, decide_eq_true_eq]
 simp only [Bool.and_eq_true, decide_eq_true_eq, Bool.not_eq_true', List.any_eq_false]
 unfold GridOk
 constructor
 ·
  rintro ⟨⟨h1, h2⟩, h3, h4, h5, h6⟩
  refine ⟨h1, h2, by omega, by omega, fun s hs => ?_, fun f hf => ?_⟩
  ·
   have := h5 s hs
   rw [bad1_iff h1 h2] at this
   exact Classical.not_not.1 this
  ·
   have := h6 f hf
   rw [bad2_iff h1 h2] at this
   exact Classical.not_not.1 this
 ·
  rintro ⟨h1, h2, h3, h4, h5, h6⟩
  refine ⟨⟨h1, h2⟩, by omega, by omega, fun s hs => ?_, fun f hf => ?_⟩
  ·
   rw [bad1_iff h1 h2]; exact fun h => h (h5 s hs)
  ·
   rw [bad2_iff h1 h2]; exact fun h => h (h6 f hf)
theorem section_f (N : Int) (sw : List S47) (fe : List S49) (x : Int) : dropperref05_section.f N sw fe x = some (decide (0 ≤ x ∧ x < N)) := by
 unfold dropperref05_section.f
 by_cases h : x ≥ 0
 ·
  rw [if_pos h]; congr 1; rw [decide_eq_decide]; omega
 ·
  rw [if_neg h]; congr 1; symm; rw [decide_eq_false_iff_not]; omega
open Classical in
theorem rvalid_l1 (N : Int) (sw : List S47) (fe : List S49) (hl : fe.length ≤ 6) : ∀ (d i : Nat), i + d = fe.length → (∀ j (h : j < fe.length), j < i → FeIs N fe[j]) →
  Ev (fun k => dropperref05_Valid.l1 k (i : Int) N sw fe) (decide (∀ f ∈ fe, FeIs N f)) := by
 intro d
 induction d with
 | zero =>
  intro i hi hb
  refine Ev.step (fun k => by rw [dropperref05_Valid.l1]) ?_
  refine ev_neg (by omega) (ev_const ?_)
  rw [decide_eq_true]
  intro f hf
  obtain ⟨j, hj, rfl⟩ := List.mem_iff_getElem.1 hf
  exact hb j hj (by omega)
 | succ d ih =>
  intro i hi hb
  have hlt : i < fe.length := by omega
  have no : ¬ FeIs N fe[i] → (false : Bool) = decide (∀ f ∈ fe, FeIs N f) := fun h => by
   symm; rw [decide_eq_false_iff_not]; exact fun h2 => h (h2 _ (List.getElem_mem hlt))
  refine Ev.step (fun k => by rw [dropperref05_Valid.l1]) ?_
  rw [rd_S71 fe i hlt, section_f, wrap_succ i (by omega)]
  refine ev_pos (by omega) (ev_pos (by omega) (ev_some ?_))
  by_cases h0 : 0 ≤ fe[i].f0 ∧ fe[i].f0 < N
  ·
   refine ev_pos (decide_eq_true h0) ?_
   by_cases h1 : fe[i].f1 < 1
   ·
    exact ev_pos h1 (ev_const (congrArg some (no (fun h => by unfold FeIs at h; omega))))
   refine ev_neg h1 ?_
   by_cases h2 : fe[i].f1 > 3
   ·
    exact ev_pos h2 (ev_const (congrArg some (no (fun h => by unfold FeIs at h; omega))))
   refine ev_neg h2 (ih (i + 1) (by omega) (fun j hj hji => ?_))
   by_cases h : j < i
   ·
    exact hb j hj h
   ·
    obtain rfl : j = i := by omega
    unfold FeIs; omega
  ·
   exact ev_neg (by simpa using h0) (ev_const (congrArg some (no (fun h => h0 ⟨h.1, h.2.1⟩))))
open Classical in
theorem rvalid_l0 (N : Int) (sw : List S47) (fe : List S49) (hl : fe.length ≤ 6) (hs : sw.length ≤ 10) : ∀ (d i : Nat), i + d = sw.length → (∀ j (h : j < sw.length), j < i → SwIs N sw[j]) →
  Ev (fun k => dropperref05_Valid.l0 k (i : Int) N sw fe) (decide ((∀ s ∈ sw, SwIs N s) ∧ ∀ f ∈ fe, FeIs N f)) := by
 intro d
 induction d with
 | zero =>
  intro i hi hb
  have hall : ∀ s ∈ sw, SwIs N s := by
   intro f hf
   obtain ⟨j, hj, rfl⟩ := List.mem_iff_getElem.1 hf
   exact hb j hj (by omega)
  have e : decide ((∀ s ∈ sw, SwIs N s) ∧ ∀ f ∈ fe, FeIs N f) = decide (∀ f ∈ fe, FeIs N f) := by
   rw [decide_eq_decide]; exact ⟨fun h => h.2, fun h => ⟨hall, h⟩⟩
  rw [e]
  refine Ev.step (fun k => by rw [dropperref05_Valid.l0]) ?_
  exact ev_neg (by omega) (rvalid_l1 N sw fe hl fe.length 0 (by omega) (fun j h hj => by omega))
 | succ d ih =>
  intro i hi hb
  have hlt : i < sw.length := by omega
  have no : ¬ SwIs N sw[i] → (false : Bool) = decide ((∀ s ∈ sw, SwIs N s) ∧ ∀ f ∈ fe, FeIs N f) := fun h => by
   symm; rw [decide_eq_false_iff_not]; exact fun h2 => h (h2.1 _ (List.getElem_mem hlt))
  refine Ev.step (fun k => by rw [dropperref05_Valid.l0]) ?_
  rw [rd_S69 sw i hlt, section_f, section_f, wrap_succ i (by omega)]
  refine ev_pos (by omega) (ev_pos (by omega) (ev_some ?_))
  by_cases h0 : 0 ≤ sw[i].f0 ∧ sw[i].f0 < N
  ·
   refine ev_pos (decide_eq_true h0) (ev_some ?_)
   by_cases h1 : 0 ≤ sw[i].f1 ∧ sw[i].f1 < N
   ·
    refine ev_pos (decide_eq_true h1) ?_
    by_cases h2 : sw[i].f0 = sw[i].f1
    ·
     exact ev_pos h2 (ev_const (congrArg some (no (fun h => h.2.2.2.2 h2))))
    refine ev_neg h2 (ih (i + 1) (by omega) (fun j hj hji => ?_))
    by_cases h : j < i
    ·
     exact hb j hj h
    ·
     obtain rfl : j = i := by omega
     exact ⟨h0.1, h0.2, h1.1, h1.2, h2⟩
   ·
    exact ev_neg (by simpa using h1) (ev_const (congrArg some (no (fun h => h1 ⟨h.2.2.1, h.2.2.2.1⟩))))
  ·
   exact ev_neg (by simpa using h0) (ev_const (congrArg some (no (fun h => h0 ⟨h.1, h.2.1⟩))))
open Classical in
theorem rvalid_ev (N : Int) (sw : List S47) (fe : List S49) : Ev (fun k => dropperref05_Valid.f k N sw fe) (decide (GridOk N sw fe)) := by
 have no : ¬ GridOk N sw fe → Ev (fun k => dropperref05_Valid.j0 k true N sw fe) (decide (GridOk N sw fe)) := fun h => by
  rw [decide_eq_false h]
  refine Ev.step (fun k => by rw [dropperref05_Valid.j0]) ?_
  exact ev_pos rfl (Ev.now _)
 unfold dropperref05_Valid.f
 by_cases h1 : N < 1
 ·
  exact ev_pos h1 (no (fun h => by have := h.1; omega))
 refine ev_neg h1 ?_
 by_cases h2 : N > 8
 ·
  exact ev_pos h2 (no (fun h => by have := h.2.1; omega))
 refine ev_neg h2 ?_
 by_cases h3 : (sw.length : Int) > 10
 ·
  exact ev_pos h3 (no (fun h => by have := h.2.2.1; omega))
 refine ev_neg h3 ?_
 by_cases h4 : (fe.length : Int) > 6
 ·
  rw [decide_eq_true h4]
  exact no (fun h => by have := h.2.2.2.1; omega)
 rw [decide_eq_false h4]
 refine Ev.step (fun k => by rw [dropperref05_Valid.j0]) (ev_neg (by simp) ?_)
 have e : decide (GridOk N sw fe) = decide ((∀ s ∈ sw, SwIs N s) ∧ ∀ f ∈ fe, FeIs N f) := by
  rw [decide_eq_decide]
  exact ⟨fun h => h.2.2.2.2, fun h => ⟨by omega, by omega, by omega, by omega, h⟩⟩
 rw [e]
 exact rvalid_l0 N sw fe (by omega) (by omega) sw.length 0 (by omega) (fun j h hj => by omega)
end Go.Proofs.YtldifdmfefpglaaDoor.Plain


/- What is live, and which states are right, as the program reckons them. -/
namespace Go.Proofs.YtldifdmfefpglaaDoor.Plain
set_option linter.unusedVariables false
set_option linter.unusedSimpArgs false
open Go.RowKit Go.Proofs.YtldifdmfefpglaaDoor.XFeed Go.Proofs.YtldifdmfefpglaaDoorW.PrintWords Go.Proofs.YtldifdmfefpglaaDoorW.PrintLast Go.Proofs.YtldifdmfefpglaaDoorW.PrintMore

def cn (m : Nat) : Nat := ((List.range 4).filter m.testBit).length
def lv (m : Nat) : Int := if cn m = 0 then 0 else if cn m = 1 then (if m = 1 then 0 else if m = 2 then 1 else if m = 4 then 2 else 3) else -1
theorem ones16 : ∀ m : Nat, m < 16 → bits_OnesCount.f (m : Int) = some (cn m : Int) := by decide +kernel
theorem tz16 : ∀ m : Nat, m < 16 → cn m = 1 → bits_TrailingZeros.f (m : Int) = some (lv m) := by decide +kernel
def Mark (sw : List S47) (st n : Nat) (fe : List S49) (l : List Int) : Prop := l.length = n ∧ ∀ i, i < n → ∃ m, rd l (i : Int) = lv m ∧ Mask sw st fe i m
theorem live_l0 (n : Nat) (hn : n ≤ 8) (sw : List S47) (fe : List S49) (st : Nat) (t : List Int) (ht : Fed sw st n fe t) :
  ∀ (d i : Nat) (acc : List Int), i + d = n → acc.length = i → (∀ j, j < i → ∃ m, rd acc (j : Int) = lv m ∧ Mask sw st fe j m) →
  ∃ r, Ev (fun k => feed_grid_live.l0 k acc t (t.length : Int) (i : Int)) r ∧ Mark sw st n fe r := by
 intro d
 induction d with
 | zero =>
  intro i acc hi ha hm
  obtain rfl : i = n := by omega
  have := ht.1
  refine ⟨acc, ?_, ha, hm⟩
  refine Ev.step (fun k => by rw [feed_grid_live.l0]) ?_
  exact ev_neg (by omega) (Ev.now _)
 | succ d ih =>
  intro i acc hi ha hm
  have hl := ht.1
  obtain ⟨m, e, hM⟩ := ht.2 i (by omega)
  have hm16 := hM.1
  have next : ∃ r, Ev (fun k => feed_grid_live.l0 k (acc ++ [lv m]) t (t.length : Int) ((i + 1 : Nat) : Int)) r ∧ Mark sw st n fe r := by
   refine ih (i + 1) (acc ++ [lv m]) (by omega) (by simp [ha]) (fun j hj => ?_)
   by_cases h : j < i
   ·
    obtain ⟨m', e', h'⟩ := hm j h
    refine ⟨m', ?_, h'⟩
    rw [← e']
    simp [rd, List.getD_eq_getElem?_getD, List.getElem?_append_left (show j < acc.length by omega)]
   ·
    obtain rfl : j = i := by omega
    refine ⟨m, ?_, hM⟩
    simp [rd, List.getD_eq_getElem?_getD, ← ha]
  obtain ⟨r, h1, h2⟩ := next
  refine ⟨r, ?_, h2⟩
  refine Ev.step (fun k => by rw [feed_grid_live.l0]) ?_
  rw [e, ones16 m hm16, wrap_succ i (by omega)]
  refine ev_pos (by omega) (ev_pos (by omega) (ev_pos (by omega) (ev_some ?_)))
  by_cases c0 : cn m = 0
  ·
   have e0 : lv m = 0 := by unfold lv; rw [if_pos c0]
   rw [e0] at h1
   exact ev_pos (by omega) (ev_pos (by omega) h1)
  ·
   refine ev_neg (by omega) ?_
   by_cases c1 : cn m = 1
   ·
    rw [tz16 m hm16 c1]
    exact ev_pos (by omega) (ev_some (ev_pos (by omega) h1))
   ·
    have e1 : lv m = -1 := by unfold lv; rw [if_neg c0, if_neg c1]
    rw [e1] at h1
    exact ev_neg (by omega) (ev_pos (by omega) h1)
theorem live_ev (n : Nat) (hn : n ≤ 8) (sw : List S47) (hsw : SwOk 8 sw) (hlen : sw.length ≤ 20) (fe : List S49) (hfe : FeOk n fe) (hfl : fe.length ≤ 20) (st : Nat) (hst : st < 2 ^ 20) :
  ∃ r, Ev (fun k => feed_grid_live.f k (n : Int) sw fe (st : Int)) r ∧ Mark sw st n fe r := by
 obtain ⟨t, h1, h2⟩ := fed_ev n hn sw hsw hlen fe hfe hfl st hst
 obtain ⟨r, h3, h4⟩ := live_l0 n hn sw fe st t h2 n 0 [] (by omega) rfl (fun j hj => by omega)
 refine ⟨r, ?_, h4⟩
 unfold feed_grid_live.f
 exact Ev.bind h1 h3
theorem index_l0 (l : List Int) (hl : l.length ≤ 100) (v : Int) : ∀ (d i : Nat), i + d = l.length → (∀ j (h : j < l.length), j < i → l[j] ≠ v) →
  ∃ r : Int, Ev (fun k => slices_Index_int_int.l0 k l v (l.length : Int) (i : Int)) r ∧ (0 ≤ r ↔ v ∈ l) := by
 intro d
 induction d with
 | zero =>
  intro i hi hb
  refine ⟨-1, ?_, ?_⟩
  ·
   refine Ev.step (fun k => by rw [slices_Index_int_int.l0]) ?_
   exact ev_neg (by omega) (Ev.now _)
  ·
   constructor
   ·
    intro h; omega
   ·
    intro h
    obtain ⟨j, hj, e⟩ := List.mem_iff_getElem.1 h
    exact absurd e (hb j hj (by omega))
 | succ d ih =>
  intro i hi hb
  have hlt : i < l.length := by omega
  have hr : rd l (i : Int) = l[i] := by simp [rd, List.getD_eq_getElem?_getD, hlt]
  by_cases he : v = l[i]
  ·
   refine ⟨i, ?_, ?_⟩
   ·
    refine Ev.step (fun k => by rw [slices_Index_int_int.l0]) ?_
    rw [hr]
    exact ev_pos (by omega) (ev_pos (by omega) (ev_pos (by omega) (ev_pos he (Ev.now _))))
   ·
    exact ⟨fun _ => he ▸ List.getElem_mem hlt, fun _ => by omega⟩
  ·
   obtain ⟨r, h1, h2⟩ := ih (i + 1) (by omega) (fun j hj hji => by
    by_cases h : j < i
    ·
     exact hb j hj h
    ·
     obtain rfl : j = i := by omega
     exact fun e => he e.symm)
   refine ⟨r, ?_, h2⟩
   refine Ev.step (fun k => by rw [slices_Index_int_int.l0]) ?_
   rw [hr, wrap_succ i (by omega)]
   exact ev_pos (by omega) (ev_pos (by omega) (ev_pos (by omega) (ev_neg he h1)))
theorem contains_ev (l : List Int) (hl : l.length ≤ 100) (v : Int) : Ev (fun k => slices_Contains_int_int.f k l v) (decide (v ∈ l)) := by
 obtain ⟨r, h1, h2⟩ := index_l0 l hl v l.length 0 (by omega) (fun j h hj => by omega)
 unfold slices_Contains_int_int.f slices_Index_int_int.f
 refine Ev.bind h1 (ev_const ?_)
 congr 1
 rw [decide_eq_decide]
 exact h2
theorem mask_unique {sw : List S47} {st : Nat} {fe : List S49} {i m m' : Nat} (h : Mask sw st fe i m) (h' : Mask sw st fe i m') : m = m' := by
 apply Nat.eq_of_testBit_eq
 intro p
 rw [Bool.eq_iff_iff, h.2, h'.2]
end Go.Proofs.YtldifdmfefpglaaDoor.Plain


/- Live, Right, States of a grid as described. -/
namespace Go.Proofs.YtldifdmfefpglaaDoor.Plain
set_option linter.unusedVariables false
set_option linter.unusedSimpArgs false
open Go.RowKit Go.Proofs.YtldifdmfefpglaaDoor.XFeed Go.Proofs.YtldifdmfefpglaaDoorW.PrintWords Go.Proofs.YtldifdmfefpglaaDoorW.PrintLast Go.Proofs.YtldifdmfefpglaaDoorW.PrintMore

theorem GridOk.sw8 {n : Nat} {sw : List S47} {fe : List S49} (h : GridOk (n : Int) sw fe) : SwOk 8 sw := fun s hs => by
 have := h.2.2.2.2.1 s hs
 have := h.2.1
 unfold SwIs at *
 omega
theorem GridOk.fe {n : Nat} {sw : List S47} {fe : List S49} (h : GridOk (n : Int) sw fe) : FeOk n fe := fun f hf => h.2.2.2.2.2 f hf
theorem all_f (N : Int) (sw : List S47) (fe : List S49) (h : sw.length ≤ 10) : feed_grid_all.f N sw fe = some ((2 ^ sw.length : Nat) : Int) := by
 unfold feed_grid_all.f
 have hp : 2 ^ sw.length ≤ 2 ^ 10 := Nat.pow_le_pow_right (by decide) h
 rw [show (1 : Int) = ((1 : Nat) : Int) from rfl, shl_i (by omega) (by omega), Nat.one_shiftLeft]
theorem within_f (a b c : Int) : feed_within.f a b c = some (decide (a ≤ b ∧ b ≤ c)) := by
 unfold feed_within.f
 by_cases h : a ≤ b
 ·
  rw [if_pos h]; congr 1; rw [decide_eq_decide]; omega
 ·
  rw [if_neg h]; congr 1; symm; rw [decide_eq_false_iff_not]; omega
open Classical in
theorem open_f (N : Int) (sw : List S47) (fe : List S49) (st : Int) :
  feed_open.f N sw fe st = some (N, if GridOk N sw fe then (if 0 ≤ st ∧ st < ((2 ^ sw.length : Nat) : Int) then 0 else 51) else 50) := by
 unfold feed_open.f
 rw [valid_f]
 by_cases h : GridOk N sw fe
 ·
  have hl := h.2.2.1
  have hp : 2 ^ sw.length ≤ 2 ^ 10 := Nat.pow_le_pow_right (by decide) hl
  rw [decide_eq_true h, if_pos h]
  simp only [Option.bind_some, if_true]
  rw [all_f N sw fe hl]
  simp only [Option.bind_some]
  generalize 2 ^ sw.length = P at *
  rw [wrap_id (by omega) (by omega), within_f]
  simp only [Option.bind_some]
  by_cases h2 : 0 ≤ st ∧ st < (P : Int)
  ·
   rw [if_pos (decide_eq_true (by omega)), if_pos h2]
  ·
   rw [if_neg (by simp only [decide_eq_true_eq]; omega), if_neg h2]
 ·
  rw [decide_eq_false h, if_neg h]; rfl
end Go.Proofs.YtldifdmfefpglaaDoor.Plain


/- One more closed switch never takes anything away. -/
namespace Go.Proofs.YtldifdmfefpglaaDoor.Plain
set_option linter.unusedVariables false
set_option linter.unusedSimpArgs false
open Go.RowKit Go.Proofs.YtldifdmfefpglaaDoor.XFeed Go.Proofs.YtldifdmfefpglaaDoorW.PrintWords Go.Proofs.YtldifdmfefpglaaDoorW.PrintLast Go.Proofs.YtldifdmfefpglaaDoorW.PrintMore

theorem mask_zero {sw : List S47} {st n : Nat} {fe : List S49} (hfe : FeOk n fe) {i m : Nat} (h : Mask sw st fe i m) : m.testBit 0 = false := by
 rw [Bool.eq_false_iff]
 intro hb
 obtain ⟨f, hf, e, _⟩ := (h.2 0).1 hb
 have := hfe f hf
 omega
end Go.Proofs.YtldifdmfefpglaaDoor.Plain
