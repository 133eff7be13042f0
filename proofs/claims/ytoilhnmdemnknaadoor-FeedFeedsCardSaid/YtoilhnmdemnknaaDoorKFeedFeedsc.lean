-- Written by wip/pack.py of this repo: texts of this claim, put together.
import Derived.Test.YtoilhnmdemnknaaDoorKFeedFeedsb
namespace Go.Proofs.YtoilhnmdemnknaaDoor.XFeed
open Go.RowKit Go.Proofs.YtoilhnmdemnknaaDoorW.PrintWords Go.Proofs.YtoilhnmdemnknaaDoorW.PrintLast Go.Proofs.YtoilhnmdemnknaaDoorW.PrintMore
attribute [local go_sem] max2_int min2_int max_two min_two max_three min_three max_four min_four   -- for this text's walks alone
set_option linter.unusedVariables false
set_option linter.unusedSimpArgs false
/-! ### feed_grid_section: function 65 -/
theorem feed_grid_section.within_calls (a b c : Int) (w : World) :
  Calls Tryd.prog 53 #[.int .i64 a, .int .i64 b, .int .i64 c] w fun e w' => e = .returned (.bool (decide (a ≤ b) && decide (b ≤ c))) ∧ Drawn0 w w' := by
 by_cases h1 : a ≤ b
 ·
  have h1' : decide (a ≤ b) = true := decide_eq_true h1
  go_enter Tryd.func53, Tryd.ntmps53
  go_wp2
  go_ret
  exact ⟨by simp [h1], Drawn0.refl _⟩
 ·
  have h1' : decide (a ≤ b) = false := decide_eq_false h1
  go_enter Tryd.func53, Tryd.ntmps53
  go_wp2
  go_ret
  exact ⟨by simp [h1], Drawn0.refl _⟩
def feed_grid_section.bad (n : Int) (x : Int) : Bool := !(decide (0 ≤ x) && decide (x ≤ wrap64 (n - 1)))
set_option maxHeartbeats 2000000 in
set_option maxRecDepth 100000 in
theorem feed_grid_section.clos (n : Int) (g : Nat) (x : Int) (w : World) (hcap : w.cell? ⟨g, 0, none⟩ = some (.int .i64 n)) :
  Calls Tryd.prog 94 #[.int .i64 x, .pointer (some ⟨g, 0, none⟩)] w fun e w' => e = .returned (.bool (feed_grid_section.bad n x)) ∧ Below w.heap.size w w' := by
 have hu0 := Tryd.underlying73
 have hu1 := Tryd.underlying25
 by_cases h0 : (decide (0 ≤ x) && decide (x ≤ wrap64 (n - 1))) = true
 ·
  skip
  have hE : Aside0 ((feed_grid_section.bad n x) = false) := ⟨by simp only [feed_grid_section.bad, h0, Bool.not_true, Bool.false_or]⟩
  have H0 := Aside0.mk h0
  clear h0
  go_enter Tryd.func94, Tryd.ntmps94
  go_wp2_with (first | (go_at_call 53; (with_reducible refine (feed_grid_section.within_calls 0 (x) (wrap64 (n - 1)) _).mono ?_); rintro e w' ⟨rfl, ⟨nd_, rfl⟩⟩; rw [H0.out]))
  go_ret
  exact ⟨by rw [hE.out]; rfl, by repeat (first | exact Below.refl _ _ | apply pw_below_drewN)⟩
 ·
  replace h0 := Bool.eq_false_iff.mpr h0
  have hE : Aside0 ((feed_grid_section.bad n x) = true) := ⟨by simp only [feed_grid_section.bad, h0, Bool.not_true, Bool.not_false, Bool.false_or, Bool.true_or]⟩
  have H0 := Aside0.mk h0
  clear h0
  go_enter Tryd.func94, Tryd.ntmps94
  go_wp2_with (first | (go_at_call 53; (with_reducible refine (feed_grid_section.within_calls 0 (x) (wrap64 (n - 1)) _).mono ?_); rintro e w' ⟨rfl, ⟨nd_, rfl⟩⟩; rw [H0.out]))
  go_ret
  exact ⟨by rw [hE.out]; rfl, by repeat (first | exact Below.refl _ _ | apply pw_below_drewN)⟩
theorem feed_grid_section.enter (vs : Array Value) (W : World) : (callFunc 94 vs).run Tryd.prog W = .ok (.enter 94 vs) W := enters_ Tryd.func94 (by kernel_rfl) (by kernel_rfl) vs W
def feed_grid_section.f (a0_0 : Int) (l0_1 : List S69) (l0_2 : List S71) (l1 : List Int) : Option Int := some (if l1.any (feed_grid_section.bad a0_0) then 2 else 0)
set_option maxHeartbeats 4000000 in
set_option maxRecDepth 100000 in
theorem feed_grid_section.calls (a0_0 : Int) (A0_1 : Option Addr) (c0_1 : Nat) (l0_1 : List S69) (A0_2 : Option Addr) (c0_2 : Nat) (l0_2 : List S71) (A1 : Option Addr) (c1 : Nat) (l1 : List Int) (r : Int) (w : World) (hr0_1 : Kd.C k69 w A0_1 l0_1.length l0_1) (hc0_1 : l0_1.length ≤ c0_1) (hr0_2 : Kd.C k71 w A0_2 l0_2.length l0_2) (hc0_2 : l0_2.length ≤ c0_2) (hr1 : Kd.C (Kd.int .i64) w A1 l1.length l1) (hc1 : l1.length ≤ c1) (h : feed_grid_section.f a0_0 l0_1 l0_2 l1 = some r) :
  Calls Tryd.prog 65 #[.agg #[.int .i64 a0_0, .slice A0_1 l0_1.length c0_1, .slice A0_2 l0_2.length c0_2], .slice A1 l1.length c1] w fun e w' => e = .returned (.int .i64 r) ∧ Below w.heap.size w w' := by
 have hu := Tryd.underlying25
 have hu2 := Tryd.underlying73
 have HR1 := Aside0.mk hr0_1
 have HR2 := Aside0.mk hr0_2
 clear hr0_1 hr0_2
 have HR := Aside0.mk hr1
 clear hr1
 have hB0 : Aside0 (Below w.heap.size w (w.alloc (.cells #[.int .i64 a0_0, .slice A0_1 l0_1.length c0_1, .slice A0_2 l0_2.length c0_2] 73))) := ⟨below_alloc (Below.refl _ _) _⟩
 have hB1 : Aside0 (Below (w.alloc (.cells #[.int .i64 a0_0, .slice A0_1 l0_1.length c0_1, .slice A0_2 l0_2.length c0_2] 73)).heap.size (w.alloc (.cells #[.int .i64 a0_0, .slice A0_1 l0_1.length c0_1, .slice A0_2 l0_2.length c0_2] 73)) (w.alloc (.cells #[.int .i64 a0_0, .slice A0_1 l0_1.length c0_1, .slice A0_2 l0_2.length c0_2] 73))) := ⟨Below.refl _ _⟩
 have hcell : Aside0 (∀ W, Below (w.alloc (.cells #[.int .i64 a0_0, .slice A0_1 l0_1.length c0_1, .slice A0_2 l0_2.length c0_2] 73)).heap.size (w.alloc (.cells #[.int .i64 a0_0, .slice A0_1 l0_1.length c0_1, .slice A0_2 l0_2.length c0_2] 73)) W → ∀ j, W.cell? ⟨w.heap.size, j, none⟩ = (#[.int .i64 a0_0, .slice A0_1 l0_1.length c0_1, .slice A0_2 l0_2.length c0_2] : Array Value)[j]?) := ⟨fun W hb j => by
  rw [hb.cell (by show w.heap.size < (w.heap.push _).size; rw [Array.size_push]; omega), World.cell?_alloc_at _ _ _ _ rfl]⟩
 obtain rfl := Option.some.inj h
 clear h
 by_cases h3 : l1.any (feed_grid_section.bad a0_0) = true
 ·
  rw [if_pos h3]
  have H3 := Aside0.mk h3
  clear h3
  go_enter Tryd.func65, Tryd.ntmps65
  go_wp2_with (go_at_call 86; (refine (slices_ContainsFunc_int_int.contains 94 #[.pointer (some ⟨w.heap.size, 0, none⟩)] (feed_grid_section.bad a0_0) A1 c1 l1 _ (Kd.C_below HR.out hB0.out) hc1 feed_grid_section.enter (fun x _ W hb => feed_grid_section.clos a0_0 w.heap.size x W (hcell.out W (below_step hB1.out hb) 0))).mono ?_); rintro e w' ⟨rfl, hb⟩; have HB := Aside0.mk (below_step hB0.out hb); clear hb; rw [H3.out])
  go_ret
  exact ⟨rfl, HB.out⟩
 ·
  replace h3 := Bool.eq_false_iff.mpr h3
  rw [if_neg (by rw [h3]; decide)]
  have H3 := Aside0.mk h3
  clear h3
  go_enter Tryd.func65, Tryd.ntmps65
  go_wp2_with (go_at_call 86; (refine (slices_ContainsFunc_int_int.contains 94 #[.pointer (some ⟨w.heap.size, 0, none⟩)] (feed_grid_section.bad a0_0) A1 c1 l1 _ (Kd.C_below HR.out hB0.out) hc1 feed_grid_section.enter (fun x _ W hb => feed_grid_section.clos a0_0 w.heap.size x W (hcell.out W (below_step hB1.out hb) 0))).mono ?_); rintro e w' ⟨rfl, hb⟩; have HB := Aside0.mk (below_step hB0.out hb); clear hb; rw [H3.out])
  go_ret
  exact ⟨rfl, HB.out⟩

/-! ### feed_asked: function 59 -/
def feed_asked.f (a0_0 : Int) (l0_1 : List (S69)) (l0_2 : List (S71)) (a1 : Int) (a2 : Int) : Option (Int × Int) := (feed_open.f a0_0 l0_1 l0_2 a1).bind fun bt160 => (if bt160.2 = 0 then ((feed_grid_section.f bt160.1 l0_1 l0_2 (([a2] : List Int))).bind fun t172 => (some (bt160.1, t172))) else (some (bt160.1, bt160.2)))
set_option maxHeartbeats 8000000 in
set_option maxRecDepth 100000 in
theorem feed_asked.calls (a0_0 : Int) (A0_1 : Option Addr) (c0_1 : Nat) (l0_1 : List (S69)) (A0_2 : Option Addr) (c0_2 : Nat) (l0_2 : List (S71)) (a1 : Int) (a2 : Int) (r1 : Int) (r2 : Int) (w : World) (hr0_1 : Kd.C k69 w A0_1 l0_1.length l0_1) (hc0_1 : l0_1.length ≤ c0_1) (hr0_2 : Kd.C k71 w A0_2 l0_2.length l0_2) (hc0_2 : l0_2.length ≤ c0_2) (h : feed_asked.f a0_0 l0_1 l0_2 a1 a2 = some (r1, r2)) :
  Calls Tryd.prog 59 #[.agg #[.int .i64 a0_0, .slice A0_1 l0_1.length c0_1, .slice A0_2 l0_2.length c0_2], .int .i64 a1, .int .i64 a2] w fun e w' => e = .returned (.tuple #[.agg #[.int .i64 r1, .slice A0_1 l0_1.length c0_1, .slice A0_2 l0_2.length c0_2], .int .i64 r2]) ∧ Below w.heap.size w w' := by
 have hu25 := Tryd.underlying25
 have hu73 := Tryd.underlying73
 have HR0_1 := Aside0.mk hr0_1
 have HC0_1 := Aside0.mk hc0_1
 clear hr0_1 hc0_1
 have HR0_2 := Aside0.mk hr0_2
 have HC0_2 := Aside0.mk hc0_2
 clear hr0_2 hc0_2
 have HB := Aside0.mk (Below.refl w.heap.size w)
 have H : ((feed_open.f a0_0 l0_1 l0_2 a1).bind fun bt160 => (if bt160.2 = 0 then ((feed_grid_section.f bt160.1 l0_1 l0_2 (([a2] : List Int))).bind fun t172 => (some (bt160.1, t172))) else (some (bt160.1, bt160.2)))) = some (r1, r2) := h
 clear h
 replace H := Option.bind_eq_some_iff.mp H
 obtain ⟨⟨t160, t167⟩, A40, H⟩ := H
 replace H : (if t167 = 0 then ((feed_grid_section.f t160 l0_1 l0_2 (([a2] : List Int))).bind fun t172 => (some (t160, t172))) else (some (t160, t167))) = some (r1, r2) := H
 have A4 := Aside0.mk A40
 clear A40
 by_cases c5 : t167 = 0
 ·
  rw [if_pos c5] at H
  have c5b0 : (t167 == 0) = true := beq_iff_eq.mpr c5
  have c5b1 : (t167 != 0) = false := bne_eq_false_iff_eq.mpr c5
  clear c5
  obtain ⟨y169, hy169⟩ : ∃ y_ : List Int, y_ = (([a2] : List Int)) := ⟨_, rfl⟩
  replace H : ((feed_grid_section.f t160 l0_1 l0_2 y169).bind fun t172 => (some (t160, t172))) = some (r1, r2) := by first | (rw [hy169]; with_reducible exact H) | (have H2_ := (Option.bind_some _ _).symm.trans H; rw [hy169]; with_reducible exact H2_) | (have H2_ := (Option.bind_some _ _).symm.trans H; with_reducible exact H2_) | with_reducible exact H | (rw [hy169]; exact H) | exact H
  have Ny169 := Aside0.mk hy169
  clear hy169
  replace H := Option.bind_eq_some_iff.mp H
  obtain ⟨t172, A60, H⟩ := H
  replace H : (some (t160, t172)) = some (r1, r2) := H
  have A6 := Aside0.mk A60
  clear A60
  simp only [Option.some.injEq, Prod.mk.injEq] at H
  obtain ⟨rfl, rfl⟩ := H
  go_enter Tryd.func59, Tryd.ntmps59
  go_wp2_with (first | ((with_reducible refine gate_dst (N := 3) rfl ?_); refine box_event ?hg (N := 3) ?hd (cs := #[.int .i64 a0_0, .slice A0_1 l0_1.length c0_1, .slice A0_2 l0_2.length c0_2]) (t := 25) ?hr ?_; (case hd => rfl); (case hg => rfl); (case hr => first | (go_simp; done) | (go_simp; rfl)); intro gb158 hg w7 hbox hb; have BK158 := Aside0.mk (hbox); have GW158 := bsz (w := w) hg; have GE158 := GW158; replace HB := Aside0.mk (below_step bel hb); clear hb hbox hg) | ((with_reducible refine gate_dst (N := 6) rfl ?_); refine box_event ?hg (N := 6) ?hd (cs := #[.int .i64 0, .slice none 0 0, .slice none 0 0]) (t := 73) ?hr ?_; (case hd => rfl); (case hg => rfl); (case hr => first | (go_simp; done) | (go_simp; rfl)); intro gb159 hg w8 hbox hb; have BK159 := Aside0.mk (hbox); have GW159 := bsz (w := w) hg; have GE159 := GW159; have NB158_159 := neL (g := gb158) hg; have NB159_158 := neR (g := gb158) hg; replace BK158 := Aside0.mk (blk_below (g := gb158) blkz hb); replace HB := Aside0.mk (below_step bel hb); clear hb hbox hg; have hnb9 := NB158_159.out; have hnc9 := NB159_158.out; have hcz10_0 := blkc BK158.out 0 (.int .i64 a0_0) rfl; have hcz10_1 := blkc BK158.out 1 (.slice A0_1 l0_1.length c0_1) rfl; have hcz10_2 := blkc BK158.out 2 (.slice A0_2 l0_2.length c0_2) rfl) | ((with_reducible refine gate_callee (f := 46) rfl ?_); refine goesL_ (some 13) rfl rfl Tryd.func46 (by kernel_rfl) rfl #[.agg #[.int .i64 a0_0, .slice A0_1 l0_1.length c0_1, .slice A0_2 l0_2.length c0_2], .int .i64 a1] rfl mapz ?_; (with_reducible refine (feed_open.calls a0_0 _ _ l0_1 _ _ l0_2 a1 t160 t167 _ ?side1 ?side2 ?side3 ?side4 A4.out).mono ?_); (case side1 => exact cbz HR0_1); (case side2 => exact HC0_1.out); (case side3 => exact cbz HR0_2); (case side4 => exact HC0_2.out); rintro e w11 ⟨rfl, hb⟩; refine ⟨_, rfl, ?_⟩; replace BK158 := Aside0.mk (blk_below (g := gb158) blkz hb); replace BK159 := Aside0.mk (blk_below (g := gb159) blkz hb); replace HB := Aside0.mk (below_step bel hb); (try clear hb); (try clear hb2); (try clear hk); (try clear hi)) | ((with_reducible refine gate_dst (N := 8) rfl ?_); refine box_event ?hg (N := 8) ?hd (cs := #[.int .i64 0, .slice none 0 0, .slice none 0 0]) (t := 73) ?hr ?_; (case hd => rfl); (case hg => rfl); (case hr => first | (go_simp; done) | (go_simp; rfl)); intro gb168 hg w12 hbox hb; have BK168 := Aside0.mk (hbox); have GW168 := bsz (w := w) hg; have GE168 := GW168; have NB158_168 := neL (g := gb158) hg; have NB168_158 := neR (g := gb158) hg; have NB159_168 := neL (g := gb159) hg; have NB168_159 := neR (g := gb159) hg; replace BK158 := Aside0.mk (blk_below (g := gb158) blkz hb); replace BK159 := Aside0.mk (blk_below (g := gb159) blkz hb); replace HB := Aside0.mk (below_step bel hb); clear hb hbox hg; have hnb13 := NB168_158.out; have hnc13 := NB158_168.out; have hnb14 := NB168_159.out; have hnc14 := NB159_168.out; have hcz15_0 := blkc BK168.out 0 (.int .i64 0) rfl; have hcz15_1 := blkc BK168.out 1 (.slice none 0 0) rfl; have hcz15_2 := blkc BK168.out 2 (.slice none 0 0) rfl; have hfz15_0 := blk_frozen BK168.out 0; have hfz15_1 := blk_frozen BK168.out 1; have hfz15_2 := blk_frozen BK168.out 2) | ((with_reducible refine gate_dst (N := 20) rfl ?_); refine Kd.R_lit (Kd.int .i64) _ 3 ?hg (N := 20) ?hd (xs := ([a2] : List Int)) (inner := [.int .i64 a2]) (ok := fun _ => True) (okp := fun _ => True) ?hr ?hp (fun _ hk => hk) trivial (Below.refl _ _) (Nat.le_refl _) (by simp) ?_; (case hd => rfl); (case hg => rfl); (case hr => first | (go_simp; done) | (go_simp; rfl)); (case hp => exact (Reps.one (show Kd.M (Kd.int .i64) _ _ _ a2 [.int .i64 a2] from rfl) (Reps.none _ _))); intro v170 w16 ho17 hb hg_ hnew_; clear hg_ hnew_; (first | rw [← Ny169.out] at ho17 | (simp only [Int.reduceToNat] at ho17; rw [← Ny169.out] at ho17)); have HO171 := Aside0.mk (Kd.R_lower ho17 (below_size bel)); replace BK158 := Aside0.mk (blk_below (g := gb158) (o := .cells #[.int .i64 a0_0, .slice A0_1 l0_1.length c0_1, .slice A0_2 l0_2.length c0_2] 25 (0, 0)) (by (with_reducible repeat (first | refine blk_drewN ?_ _ | refine blk_drew ?_ | refine blk_alloc ?_ _)); refine blk_far ?_ NB158_168.out _; (with_reducible repeat (first | refine blk_drewN ?_ _ | refine blk_drew ?_ | refine blk_alloc ?_ _)); refine blk_far ?_ NB158_168.out _; (with_reducible repeat (first | refine blk_drewN ?_ _ | refine blk_drew ?_ | refine blk_alloc ?_ _)); refine blk_far ?_ NB158_168.out _; (with_reducible repeat (first | refine blk_drewN ?_ _ | refine blk_drew ?_ | refine blk_alloc ?_ _)); exact BK158.out) hb); replace BK159 := Aside0.mk (blk_below (g := gb159) (o := .cells #[.int .i64 0, .slice none 0 0, .slice none 0 0] 73 (0, 0)) (by (with_reducible repeat (first | refine blk_drewN ?_ _ | refine blk_drew ?_ | refine blk_alloc ?_ _)); refine blk_far ?_ NB159_168.out _; (with_reducible repeat (first | refine blk_drewN ?_ _ | refine blk_drew ?_ | refine blk_alloc ?_ _)); refine blk_far ?_ NB159_168.out _; (with_reducible repeat (first | refine blk_drewN ?_ _ | refine blk_drew ?_ | refine blk_alloc ?_ _)); refine blk_far ?_ NB159_168.out _; (with_reducible repeat (first | refine blk_drewN ?_ _ | refine blk_drew ?_ | refine blk_alloc ?_ _)); exact BK159.out) hb); replace BK168 := Aside0.mk (blk_below (g := gb168) (o := .cells #[.int .i64 t160, .slice A0_1 l0_1.length c0_1, .slice A0_2 l0_2.length c0_2] 73 (0, 0)) (by (with_reducible repeat (first | refine blk_drewN ?_ _ | refine blk_drew ?_ | refine blk_alloc ?_ _)); refine blk_put (cs := #[.int .i64 t160, .slice A0_1 l0_1.length c0_1, .slice none 0 0]) ?_ 2 _ rfl; (with_reducible repeat (first | refine blk_drewN ?_ _ | refine blk_drew ?_ | refine blk_alloc ?_ _)); refine blk_put (cs := #[.int .i64 t160, .slice none 0 0, .slice none 0 0]) ?_ 1 _ rfl; (with_reducible repeat (first | refine blk_drewN ?_ _ | refine blk_drew ?_ | refine blk_alloc ?_ _)); refine blk_put (cs := #[.int .i64 0, .slice none 0 0, .slice none 0 0]) ?_ 0 _ rfl; (with_reducible repeat (first | refine blk_drewN ?_ _ | refine blk_drew ?_ | refine blk_alloc ?_ _)); exact BK168.out) hb); replace HB := Aside0.mk (below_step bel hb); clear hb ho17; obtain ⟨Ao18, co18, eo18⟩ := Kd.R_slice HO171.out; subst eo18) | ((with_reducible refine gate_callee (f := 65) rfl ?_); refine goesL_ (some 21) rfl rfl Tryd.func65 (by kernel_rfl) rfl #[.agg #[.int .i64 t160, .slice A0_1 l0_1.length c0_1, .slice A0_2 l0_2.length c0_2], .slice Ao18 y169.length co18] rfl mapz ?_; (with_reducible refine (feed_grid_section.calls t160 _ _ l0_1 _ _ l0_2 _ _ y169 t172 _ ?side1 ?side2 ?side3 ?side4 ?side5 ?side6 A6.out).mono ?_); (case side1 => exact cbz HR0_1); (case side2 => exact HC0_1.out); (case side3 => exact cbz HR0_2); (case side4 => exact HC0_2.out); (case side5 => repeat (first | exact (Kd.R_reads' HO171.out).2.2 | (with_reducible refine Kd.C_alloc ?_ _) | (with_reducible refine Kd.C_drewN ?_ _) | (with_reducible refine Kd.C_drew ?_))); (case side6 => exact (Kd.R_reads' HO171.out).2.1); rintro e w19 ⟨rfl, hb⟩; refine ⟨_, rfl, ?_⟩; replace HO171 := Aside0.mk (Kd.R_below (ownx HO171) hb); replace BK158 := Aside0.mk (blk_below (g := gb158) blkz hb); replace BK159 := Aside0.mk (blk_below (g := gb159) blkz hb); replace BK168 := Aside0.mk (blk_below (g := gb168) blkz hb); replace HB := Aside0.mk (below_step bel hb); (try clear hb); (try clear hb2); (try clear hk); (try clear hi); have hcz20_0 := blkc BK168.out 0 (.int .i64 t160) rfl; have hcz20_1 := blkc BK168.out 1 (.slice A0_1 l0_1.length c0_1) rfl; have hcz20_2 := blkc BK168.out 2 (.slice A0_2 l0_2.length c0_2) rfl; have hfz20_0 := blk_frozen BK168.out 0; have hfz20_1 := blk_frozen BK168.out 1; have hfz20_2 := blk_frozen BK168.out 2; have hcz21_0 := blkc BK159.out 0 (.int .i64 0) rfl; have hcz21_1 := blkc BK159.out 1 (.slice none 0 0) rfl; have hcz21_2 := blkc BK159.out 2 (.slice none 0 0) rfl; have hfz21_0 := blk_frozen BK159.out 0; have hfz21_1 := blk_frozen BK159.out 1; have hfz21_2 := blk_frozen BK159.out 2))
  refine bodyPost_ret (results_ct rfl _ _ gb159 73 #[.int .i64 t160, .slice A0_1 l0_1.length c0_1, .slice A0_2 l0_2.length c0_2] (0, 0) _ rfl (by (with_reducible repeat (first | refine blk_drewN ?_ _ | refine blk_drew ?_ | refine blk_alloc ?_ _)); refine blk_put (cs := #[.int .i64 t160, .slice A0_1 l0_1.length c0_1, .slice none 0 0]) ?_ 2 _ rfl; (with_reducible repeat (first | refine blk_drewN ?_ _ | refine blk_drew ?_ | refine blk_alloc ?_ _)); refine blk_put (cs := #[.int .i64 t160, .slice none 0 0, .slice none 0 0]) ?_ 1 _ rfl; (with_reducible repeat (first | refine blk_drewN ?_ _ | refine blk_drew ?_ | refine blk_alloc ?_ _)); refine blk_put (cs := #[.int .i64 0, .slice none 0 0, .slice none 0 0]) ?_ 0 _ rfl; (with_reducible repeat (first | refine blk_drewN ?_ _ | refine blk_drew ?_ | refine blk_alloc ?_ _)); exact BK159.out) Tryd.underlying73 rfl (by kernel_rfl)) rfl ?_
  exact ⟨ezz, bel⟩
 ·
  rw [if_neg c5] at H
  have c5b0 : (t167 == 0) = false := beq_eq_false_iff_ne.mpr c5
  have c5b1 : (t167 != 0) = true := bne_iff_ne.mpr c5
  simp only [Option.some.injEq, Prod.mk.injEq] at H
  obtain ⟨rfl, rfl⟩ := H
  go_enter Tryd.func59, Tryd.ntmps59
  go_wp2_with (first | ((with_reducible refine gate_dst (N := 3) rfl ?_); refine box_event ?hg (N := 3) ?hd (cs := #[.int .i64 a0_0, .slice A0_1 l0_1.length c0_1, .slice A0_2 l0_2.length c0_2]) (t := 25) ?hr ?_; (case hd => rfl); (case hg => rfl); (case hr => first | (go_simp; done) | (go_simp; rfl)); intro gb158 hg w22 hbox hb; have BK158 := Aside0.mk (hbox); have GW158 := bsz (w := w) hg; have GE158 := GW158; replace HB := Aside0.mk (below_step bel hb); clear hb hbox hg) | ((with_reducible refine gate_dst (N := 6) rfl ?_); refine box_event ?hg (N := 6) ?hd (cs := #[.int .i64 0, .slice none 0 0, .slice none 0 0]) (t := 73) ?hr ?_; (case hd => rfl); (case hg => rfl); (case hr => first | (go_simp; done) | (go_simp; rfl)); intro gb159 hg w23 hbox hb; have BK159 := Aside0.mk (hbox); have GW159 := bsz (w := w) hg; have GE159 := GW159; have NB158_159 := neL (g := gb158) hg; have NB159_158 := neR (g := gb158) hg; replace BK158 := Aside0.mk (blk_below (g := gb158) blkz hb); replace HB := Aside0.mk (below_step bel hb); clear hb hbox hg; have hnb24 := NB158_159.out; have hnc24 := NB159_158.out; have hcz25_0 := blkc BK158.out 0 (.int .i64 a0_0) rfl; have hcz25_1 := blkc BK158.out 1 (.slice A0_1 l0_1.length c0_1) rfl; have hcz25_2 := blkc BK158.out 2 (.slice A0_2 l0_2.length c0_2) rfl) | ((with_reducible refine gate_callee (f := 46) rfl ?_); refine goesL_ (some 13) rfl rfl Tryd.func46 (by kernel_rfl) rfl #[.agg #[.int .i64 a0_0, .slice A0_1 l0_1.length c0_1, .slice A0_2 l0_2.length c0_2], .int .i64 a1] rfl mapz ?_; (with_reducible refine (feed_open.calls a0_0 _ _ l0_1 _ _ l0_2 a1 t160 t167 _ ?side1 ?side2 ?side3 ?side4 A4.out).mono ?_); (case side1 => exact cbz HR0_1); (case side2 => exact HC0_1.out); (case side3 => exact cbz HR0_2); (case side4 => exact HC0_2.out); rintro e w26 ⟨rfl, hb⟩; refine ⟨_, rfl, ?_⟩; replace BK158 := Aside0.mk (blk_below (g := gb158) blkz hb); replace BK159 := Aside0.mk (blk_below (g := gb159) blkz hb); replace HB := Aside0.mk (below_step bel hb); (try clear hb); (try clear hb2); (try clear hk); (try clear hi)) | ((with_reducible refine gate_dst (N := 8) rfl ?_); refine box_event ?hg (N := 8) ?hd (cs := #[.int .i64 0, .slice none 0 0, .slice none 0 0]) (t := 73) ?hr ?_; (case hd => rfl); (case hg => rfl); (case hr => first | (go_simp; done) | (go_simp; rfl)); intro gb168 hg w27 hbox hb; have BK168 := Aside0.mk (hbox); have GW168 := bsz (w := w) hg; have GE168 := GW168; have NB158_168 := neL (g := gb158) hg; have NB168_158 := neR (g := gb158) hg; have NB159_168 := neL (g := gb159) hg; have NB168_159 := neR (g := gb159) hg; replace BK158 := Aside0.mk (blk_below (g := gb158) blkz hb); replace BK159 := Aside0.mk (blk_below (g := gb159) blkz hb); replace HB := Aside0.mk (below_step bel hb); clear hb hbox hg; have hnb28 := NB168_158.out; have hnc28 := NB158_168.out; have hnb29 := NB168_159.out; have hnc29 := NB159_168.out; have hcz30_0 := blkc BK168.out 0 (.int .i64 0) rfl; have hcz30_1 := blkc BK168.out 1 (.slice none 0 0) rfl; have hcz30_2 := blkc BK168.out 2 (.slice none 0 0) rfl; have hfz30_0 := blk_frozen BK168.out 0; have hfz30_1 := blk_frozen BK168.out 1; have hfz30_2 := blk_frozen BK168.out 2; have hcz31_0 := blkc BK159.out 0 (.int .i64 0) rfl; have hcz31_1 := blkc BK159.out 1 (.slice none 0 0) rfl; have hcz31_2 := blkc BK159.out 2 (.slice none 0 0) rfl; have hfz31_0 := blk_frozen BK159.out 0; have hfz31_1 := blk_frozen BK159.out 1; have hfz31_2 := blk_frozen BK159.out 2))
  refine bodyPost_ret (results_ct rfl _ _ gb159 73 #[.int .i64 t160, .slice A0_1 l0_1.length c0_1, .slice A0_2 l0_2.length c0_2] (0, 0) _ rfl (by (with_reducible repeat (first | refine blk_drewN ?_ _ | refine blk_drew ?_ | refine blk_alloc ?_ _)); refine blk_put (cs := #[.int .i64 t160, .slice A0_1 l0_1.length c0_1, .slice none 0 0]) ?_ 2 _ rfl; (with_reducible repeat (first | refine blk_drewN ?_ _ | refine blk_drew ?_ | refine blk_alloc ?_ _)); refine blk_put (cs := #[.int .i64 t160, .slice none 0 0, .slice none 0 0]) ?_ 1 _ rfl; (with_reducible repeat (first | refine blk_drewN ?_ _ | refine blk_drew ?_ | refine blk_alloc ?_ _)); refine blk_put (cs := #[.int .i64 0, .slice none 0 0, .slice none 0 0]) ?_ 0 _ rfl; (with_reducible repeat (first | refine blk_drewN ?_ _ | refine blk_drew ?_ | refine blk_alloc ?_ _)); refine blk_far ?_ NB159_168.out _; (with_reducible repeat (first | refine blk_drewN ?_ _ | refine blk_drew ?_ | refine blk_alloc ?_ _)); refine blk_far ?_ NB159_168.out _; (with_reducible repeat (first | refine blk_drewN ?_ _ | refine blk_drew ?_ | refine blk_alloc ?_ _)); refine blk_far ?_ NB159_168.out _; (with_reducible repeat (first | refine blk_drewN ?_ _ | refine blk_drew ?_ | refine blk_alloc ?_ _)); exact BK159.out) Tryd.underlying73 rfl (by kernel_rfl)) rfl ?_
  exact ⟨ezz, bel⟩

/-! ### feed_grid_atHome: function 62 -/
def feed_grid_atHome.p (n : Int) (x : S71) : Bool := x.f0 == n
set_option maxHeartbeats 2000000 in
set_option maxRecDepth 100000 in
theorem feed_grid_atHome.clos (n : Int) (g : Nat) (x : S71) (w : World) (hcap : w.cell? ⟨g, 0, none⟩ = some (.int .i64 n)) :
  Calls Tryd.prog 93 #[.agg #[.int .i64 x.f0, .int .i64 x.f1], .pointer (some ⟨g, 0, none⟩)] w fun e w' => e = .returned (.bool (feed_grid_atHome.p n x)) ∧ Below w.heap.size w w' := by
 have hu := Tryd.underlying71
 have hB : ∀ o n, Aside0 (Below w.heap.size w ((w.alloc o).drewN n)) := fun o n => ⟨pw_below_drewN (below_alloc (Below.refl _ _) o) n⟩
 have hB0 : ∀ o, Aside0 (Below w.heap.size w (w.alloc o)) := fun o => ⟨below_alloc (Below.refl _ _) o⟩
 have hg : g < w.heap.size := by
  unfold World.cell? at hcap
  split at hcap
  ·
   rename_i h; exact (Array.getElem?_eq_some_iff.1 h).1
  ·
   cases hcap
 have hcap2 : ∀ o, (w.alloc o).cell? ⟨g, 0, none⟩ = some (.int .i64 n) := fun o => by rw [← hcap]; exact ((below_alloc (Below.refl w.heap.size w) o).cell hg)
 go_enter Tryd.func93, Tryd.ntmps93
 go_wp2
 go_ret
 exact ⟨rfl, by repeat (first | exact (hB _ _).out | exact (hB0 _).out | apply pw_below_drewN)⟩
theorem feed_grid_atHome.enter (vs : Array Value) (W : World) : (callFunc 93 vs).run Tryd.prog W = .ok (.enter 93 vs) W := enters_ Tryd.func93 (by kernel_rfl) (by kernel_rfl) vs W
def feed_grid_atHome.f (a0_0 : Int) (l0_1 : List S69) (l0_2 : List S71) (a1 : Int) : Option Bool := some (l0_2.any (feed_grid_atHome.p a1))
set_option maxHeartbeats 4000000 in
set_option maxRecDepth 100000 in
theorem feed_grid_atHome.calls (a0_0 : Int) (A0_1 : Option Addr) (c0_1 : Nat) (l0_1 : List S69) (A0_2 : Option Addr) (c0_2 : Nat) (l0_2 : List S71) (a1 : Int) (r : Bool) (w : World) (hr0_1 : Kd.C k69 w A0_1 l0_1.length l0_1) (hc0_1 : l0_1.length ≤ c0_1) (hr0_2 : Kd.C k71 w A0_2 l0_2.length l0_2) (hc0_2 : l0_2.length ≤ c0_2) (h : feed_grid_atHome.f a0_0 l0_1 l0_2 a1 = some r) :
  Calls Tryd.prog 62 #[.agg #[.int .i64 a0_0, .slice A0_1 l0_1.length c0_1, .slice A0_2 l0_2.length c0_2], .int .i64 a1] w fun e w' => e = .returned (.bool r) ∧ Below w.heap.size w w' := by
 have hu := Tryd.underlying25
 have hu2 := Tryd.underlying73
 have HR1 := Aside0.mk hr0_1
 have HR2 := Aside0.mk hr0_2
 clear hr0_1 hr0_2
 have hB0 : Aside0 (Below w.heap.size w ((w.alloc (.cells #[.int .i64 a0_0, .slice A0_1 l0_1.length c0_1, .slice A0_2 l0_2.length c0_2] 73)).alloc (.cells #[.int .i64 a1] 3))) := ⟨below_alloc (below_alloc (Below.refl _ _) _) _⟩
 have hs : (w.alloc (.cells #[.int .i64 a0_0, .slice A0_1 l0_1.length c0_1, .slice A0_2 l0_2.length c0_2] 73)).heap.size = w.heap.size + 1 := Array.size_push ..
 have hcell : Aside0 (∀ W, Below ((w.alloc (.cells #[.int .i64 a0_0, .slice A0_1 l0_1.length c0_1, .slice A0_2 l0_2.length c0_2] 73)).alloc (.cells #[.int .i64 a1] 3)).heap.size ((w.alloc (.cells #[.int .i64 a0_0, .slice A0_1 l0_1.length c0_1, .slice A0_2 l0_2.length c0_2] 73)).alloc (.cells #[.int .i64 a1] 3)) W → W.cell? ⟨w.heap.size + 1, 0, none⟩ = some (.int .i64 a1)) := ⟨fun W hb => by
  rw [hb.cell (by show w.heap.size + 1 < ((w.alloc (.cells #[.int .i64 a0_0, .slice A0_1 l0_1.length c0_1, .slice A0_2 l0_2.length c0_2] 73)).heap.push _).size; rw [Array.size_push]; omega), World.cell?_alloc_at _ _ _ _ hs.symm]; rfl⟩
 obtain rfl := Option.some.inj h
 clear h
 go_enter Tryd.func62, Tryd.ntmps62
 go_wp2_with (go_at_call 56; (refine (slices_ContainsFunc_api_Feeder_api_Feeder.contains 93 #[.pointer (some ⟨w.heap.size + 1, 0, none⟩)] (feed_grid_atHome.p a1) A0_2 c0_2 l0_2 _ (Kd.C_below HR2.out hB0.out) hc0_2 feed_grid_atHome.enter (fun x _ W hb => feed_grid_atHome.clos a1 (w.heap.size + 1) x W (hcell.out W hb))).mono ?_); rintro e w' ⟨rfl, hb⟩; have HB := Aside0.mk (below_step hB0.out hb); clear hb)
 go_ret
 exact ⟨rfl, HB.out⟩

/-! ### feed_list: function 63 -/
def feed_list.l0 : Nat → Int → List Int → Option (List Int)
 | 0, _, _ => none
 | k + 1, x0, x3 => if x0 > 0 then ((bits_TrailingZeros.f (IntKind.u64.wrap (x0))).bind fun t173 => (if x3.length < 17592186044416 then (feed_list.l0 k (Go.bits .and .i64 x0 (wrap64 (x0 - 1))) (x3 ++ [t173])) else (none))) else (some x3)
def feed_list.f (k : Nat) (a0 : Int) : Option (List Int) := feed_list.l0 k a0 ([] : List Int)
theorem feed_list.mono_l : ∀ k, (∀ y0 y1, LeO (feed_list.l0 k y0 y1) (feed_list.l0 (k + 1) y0 y1))
 | 0 => fun _ _ r h => by simp [feed_list.l0] at h
 | k + 1 => by
  have ih0 := feed_list.mono_l k
  ·
   intro y0 y1
   unfold feed_list.l0
   repeat' first
   | (with_reducible exact ih0 _ _)
   | (with_reducible exact LeO.refl _)
   | (with_reducible exact LeO.none _)
   | (with_reducible refine LeO.ite ?_ ?_)
   | (with_reducible refine LeO.bind ?_ (fun _ => ?_))
   | exact ih0 _ _
   | exact LeO.none _
   | refine LeO.ite ?_ ?_
   | refine LeO.bind ?_ (fun _ => ?_)
theorem feed_list.mono : ∀ a0 k, LeO (feed_list.f k a0) (feed_list.f (k + 1) a0) := by
 intro a0 k
 have ih0 := feed_list.mono_l k
 unfold feed_list.f
 repeat' first
   | (with_reducible exact ih0 _ _)
   | (with_reducible exact LeO.refl _)
   | (with_reducible exact LeO.none _)
   | (with_reducible refine LeO.ite ?_ ?_)
   | (with_reducible refine LeO.bind ?_ (fun _ => ?_))
   | exact ih0 _ _
   | exact LeO.none _
   | refine LeO.ite ?_ ?_
   | refine LeO.bind ?_ (fun _ => ?_)
set_option maxHeartbeats 8000000 in
set_option maxRecDepth 100000 in
theorem feed_list.calls (k : Nat) (a0 : Int) (r : List Int) (w : World) (hT : Tab.Tabs w) (h : feed_list.f k a0 = some r) :
  Calls Tryd.prog 63 #[.int .i64 a0] w fun e w' => ∃ v0_ : Value, e = .returned (v0_) ∧ Kd.R (Kd.int .i64) 3 w' w.heap.size (fun _ => True) v0_ r ∧ Below w.heap.size w w' := by
 have HT := Aside0.mk hT
 clear hT
 have HB := Aside0.mk (Below.refl w.heap.size w)
 have H : (feed_list.l0 k a0 ([] : List Int)) = some r := h
 clear h
 have H' := Aside0.mk H
 clear H
 go_enter Tryd.func63, Tryd.ntmps63
 go_wp2
 go_loopg [0, 3] k (fun kq v0 v3 w' => ∃ (x0_1 : Int) (x3_1 : List Int), v0 = .int .i64 x0_1 ∧ Aside0 (feed_list.l0 kq x0_1 x3_1 = some r) ∧ Aside0 (kq ≤ k) ∧ Aside0 (Kd.R (Kd.int .i64) 3 w' w.heap.size (fun _ => True) v3 x3_1) ∧ Aside0 (Below w.heap.size w w'))
 case atStart => exact ⟨(a0), (([] : List Int)), rsz, H', ⟨Nat.le_refl _⟩, ⟨by first | exact Kd.R_nil _ _ _ _ _ | exact Kd.N_nil _ _ _ _ _ | exact Kd.V_nil _ _ _ _ _ | exact Kd.Q_nil _ _ _ _ _ | exact Kd.S_nil _ _ _ _ _⟩, ⟨bel⟩⟩
 case round =>
  clear H'
  obtain ⟨x0_1, x3_1, rfl, HA, HK1, HO_3, HB⟩ := hrel
  cases gk with
  | zero => exact absurd HA.out (by simp [feed_list.l0])
  | succ k1 =>
   have H := HA.out
   clear HA
   simp only [feed_list.l0] at H
   by_cases c2 : x0_1 > 0
   ·
    rw [if_pos c2] at H
    have c2b0 : decide (0 < x0_1) = true := decide_eq_true c2
    clear c2
    replace H := Option.bind_eq_some_iff.mp H
    obtain ⟨t173, A30, H⟩ := H
    replace H : (if x3_1.length < 17592186044416 then (feed_list.l0 k1 (Go.bits .and .i64 x0_1 (wrap64 (x0_1 - 1))) (x3_1 ++ [t173])) else (none)) = some r := H
    have A3 := Aside0.mk A30
    clear A30
    by_cases c4 : x3_1.length < 17592186044416
    ·
     rw [if_pos c4] at H
     have LMc4 := Aside0.mk c4
     clear c4
     obtain ⟨y174, hy174⟩ : ∃ y_ : List Int, y_ = (x3_1 ++ [t173]) := ⟨_, rfl⟩
     replace H : (feed_list.l0 k1 (Go.bits .and .i64 x0_1 (wrap64 (x0_1 - 1))) y174) = some r := by first | (rw [hy174]; with_reducible exact H) | (have H2_ := (Option.bind_some _ _).symm.trans H; rw [hy174]; with_reducible exact H2_) | (have H2_ := (Option.bind_some _ _).symm.trans H; with_reducible exact H2_) | with_reducible exact H | (rw [hy174]; exact H) | exact H
     have Ny174 := Aside0.mk hy174
     clear hy174
     have H' := Aside0.mk H
     clear H
     go_wp2_with (first | ((with_reducible refine gate_callee (f := 90) rfl ?_); refine goesL_ (some 13) rfl rfl Tryd.func90 (by kernel_rfl) rfl #[.int .u64 (IntKind.u64.wrap (x0_1))] rfl mapz ?_; (with_reducible refine (bits_TrailingZeros.calls (IntKind.u64.wrap (x0_1)) t173 _ ?sideT A3.out).mono ?_); (case sideT => first | exact HT.out | exact Tab.Tabs.below HT.out bel | (with_reducible repeat (first | exact HT.out | apply Tab.Tabs.alloc | apply Tab.Tabs.drewN | apply Tab.Tabs.drew))); rintro e w' ⟨rfl, ⟨nd, rfl⟩⟩; refine ⟨_, rfl, ?_⟩) | ((with_reducible refine gate_builtin (b := .append) (xs := #[.tmp 10, .tmp 14]) rfl ?_); at_builtin; refine Kd.R_append (Kd.int .i64) (w0 := w) w.heap.size rfl (.tmp 10) (.tmp 14) 28 3 (.int .i64 0) 8 rfl Tryd.underlying28 info3 rfl (by decide) (by omega) u3 x3_1 t173 [.int .i64 t173] (fun _ => True) (fun _ => False) rfl rfl ?aP (fun _ hk => hk.elim) ?aF ?aO ?aB ?aS ?aL ?_; (case aP => exact rfl); (case aB => exact bel); (case aF => exact (fun _ _ => trivial)); (case aO => exact (ownx HO_3)); (case aS => exact (below_size bel)); (case aL => have := LMc4.out; omega); intro v175 w5 ho hb hg hat; rw [← Ny174.out] at ho; have n0_ := Aside0.mk (hb); have n1_ := Aside0.mk (ho); clear HB; clear HO_3; have HB := n0_; have HO176 := n1_; clear n0_ n1_; clear ho hb hg hat))
     go_roundg k1
     case measure => have := HK1.out; omega
     case rel => exact ⟨(Go.bits .and .i64 x0_1 (wrap64 (x0_1 - 1))), (y174), rsz, H', ⟨by have := HK1.out; omega⟩, ⟨by (with_reducible repeat (first | apply Kd.R_alloc | apply Kd.R_drewN | apply Kd.R_drew)); exact HO176.out⟩, ⟨bel⟩⟩
    ·
     rw [if_neg c4] at H
     exact absurd H (by simp)
   ·
    rw [if_neg c2] at H
    have c2b0 : decide (0 < x0_1) = false := decide_eq_false c2
    clear c2
    obtain rfl := Option.some.inj H
    go_wp2
    go_ret
    exact ⟨_, ezz, by (with_reducible repeat (first | apply Kd.R_alloc | apply Kd.R_drewN | apply Kd.R_drew)); exact HO_3.out, bel⟩

/-! ### feed_grid_dead: function 60 -/
def feed_grid_dead.f (k : Nat) (a0_0 : Int) (l0_1 : List (S69)) (l0_2 : List (S71)) (a1 : Int) (a2 : Int) : Option (Bool) := (feed_grid_fed.f k a0_0 l0_1 l0_2 a1).bind fun t178 => (if 0 ≤ a2 then (if a2 < (t178.length : Int) then (some ((rd t178 a2) == 0)) else (none)) else (none))
theorem feed_grid_dead.mono : ∀ a0 a1 a2 a3 a4 k, LeO (feed_grid_dead.f k a0 a1 a2 a3 a4) (feed_grid_dead.f (k + 1) a0 a1 a2 a3 a4) := by
 intro a0 a1 a2 a3 a4 k
 unfold feed_grid_dead.f
 repeat' first
   | (with_reducible exact feed_grid_fed.mono _ _ _ _ _)
   | (with_reducible exact LeO.refl _)
   | (with_reducible exact LeO.none _)
   | (with_reducible refine LeO.ite ?_ ?_)
   | (with_reducible refine LeO.bind ?_ (fun _ => ?_))
   | exact feed_grid_fed.mono _ _ _ _ _
   | exact LeO.none _
   | refine LeO.ite ?_ ?_
   | refine LeO.bind ?_ (fun _ => ?_)
set_option maxHeartbeats 8000000 in
set_option maxRecDepth 100000 in
theorem feed_grid_dead.calls (k : Nat) (a0_0 : Int) (A0_1 : Option Addr) (c0_1 : Nat) (l0_1 : List (S69)) (A0_2 : Option Addr) (c0_2 : Nat) (l0_2 : List (S71)) (a1 : Int) (a2 : Int) (r : Bool) (w : World) (hr0_1 : Kd.C k69 w A0_1 l0_1.length l0_1) (hc0_1 : l0_1.length ≤ c0_1) (hr0_2 : Kd.C k71 w A0_2 l0_2.length l0_2) (hc0_2 : l0_2.length ≤ c0_2) (h : feed_grid_dead.f k a0_0 l0_1 l0_2 a1 a2 = some r) :
  Calls Tryd.prog 60 #[.agg #[.int .i64 a0_0, .slice A0_1 l0_1.length c0_1, .slice A0_2 l0_2.length c0_2], .int .i64 a1, .int .i64 a2] w fun e w' => e = .returned (.bool r) ∧ Below w.heap.size w w' := by
 have hu73 := Tryd.underlying73
 have HR0_1 := Aside0.mk hr0_1
 have HC0_1 := Aside0.mk hc0_1
 clear hr0_1 hc0_1
 have HR0_2 := Aside0.mk hr0_2
 have HC0_2 := Aside0.mk hc0_2
 clear hr0_2 hc0_2
 have HB := Aside0.mk (Below.refl w.heap.size w)
 have H : ((feed_grid_fed.f k a0_0 l0_1 l0_2 a1).bind fun t178 => (if 0 ≤ a2 then (if a2 < (t178.length : Int) then (some ((rd t178 a2) == 0)) else (none)) else (none))) = some r := h
 clear h
 replace H := Option.bind_eq_some_iff.mp H
 obtain ⟨t178, A40, H⟩ := H
 replace H : (if 0 ≤ a2 then (if a2 < (t178.length : Int) then (some ((rd t178 a2) == 0)) else (none)) else (none)) = some r := H
 have A4 := Aside0.mk A40
 clear A40
 by_cases c5 : 0 ≤ a2
 ·
  rw [if_pos c5] at H
  have c5b0 : decide (0 ≤ a2) = true := decide_eq_true c5
  clear c5
  by_cases c6 : a2 < (t178.length : Int)
  ·
   rw [if_pos c6] at H
   have c6b0 : decide (a2 < (t178.length : Int)) = true := decide_eq_true c6
   clear c6
   obtain rfl := Option.some.inj H
   go_enter Tryd.func60, Tryd.ntmps60
   go_wp2_with (first | ((with_reducible refine gate_dst (N := 3) rfl ?_); refine box_event ?hg (N := 3) ?hd (cs := #[.int .i64 a0_0, .slice A0_1 l0_1.length c0_1, .slice A0_2 l0_2.length c0_2]) (t := 73) ?hr ?_; (case hd => rfl); (case hg => rfl); (case hr => first | (go_simp; done) | (go_simp; rfl)); intro gb177 hg w7 hbox hb; have BK177 := Aside0.mk (hbox); have GW177 := bsz (w := w) hg; have GE177 := GW177; replace HB := Aside0.mk (below_step bel hb); clear hb hbox hg; have hcz8_0 := blkc BK177.out 0 (.int .i64 a0_0) rfl; have hcz8_1 := blkc BK177.out 1 (.slice A0_1 l0_1.length c0_1) rfl; have hcz8_2 := blkc BK177.out 2 (.slice A0_2 l0_2.length c0_2) rfl) | ((with_reducible refine gate_callee (f := 89) rfl ?_); refine goesL_ (some 9) rfl rfl Tryd.func89 (by kernel_rfl) rfl #[.agg #[.int .i64 a0_0, .slice A0_1 l0_1.length c0_1, .slice A0_2 l0_2.length c0_2], .int .i64 a1] rfl mapz ?_; (with_reducible refine (feed_grid_fed.calls k a0_0 _ _ l0_1 _ _ l0_2 a1 t178 _ ?side1 ?side2 ?side3 ?side4 A4.out).mono ?_); (case side1 => exact cbz HR0_1); (case side2 => exact HC0_1.out); (case side3 => exact cbz HR0_2); (case side4 => exact HC0_2.out); rintro e w9 ⟨v179, rfl, ho0, hb⟩; refine ⟨_, rfl, ?_⟩; have HO180 := Aside0.mk (Kd.R_lower ho0 (below_size bel)); replace BK177 := Aside0.mk (blk_below (g := gb177) blkz hb); replace HB := Aside0.mk (below_step bel hb); (try clear hb); (try clear hb2); (try clear hk); (try clear hi); (try clear ho0); obtain ⟨Ao10, co10, eo10⟩ := Kd.R_slice HO180.out; subst eo10; have p181 : 0 ≤ (a2 : Int) := of_decide_eq_true asz; have q181 : a2 < (t178.length : Int) := of_decide_eq_true asz; obtain ⟨ad181, e181, hx181_0⟩ := Kd.at_int (Kd.R_reads' HO180.out).2.2 a2 p181 q181; cases e181; replace p181 := eq_true p181; replace q181 := eq_true q181))
   go_ret
   exact ⟨ezz, bel⟩
  ·
   rw [if_neg c6] at H
   exact absurd H (by simp)
 ·
  rw [if_neg c5] at H
  exact absurd H (by simp)

/-! ### feed_grid_least: function 64 -/
def feed_grid_least.l0 : Nat → Int → Int → Int → Int → Int → Int → List (S69) → List (S71) → Option (Int)
 | 0, _, _, _, _, _, _, _, _ => none
 | k + 1, x1, x2, x7, x11, x12, x183000, x183001, x183002 => if x12 < x11 then (if (Go.bits .andNot .i64 x12 x1) = 0 then ((bits_OnesCount.f (IntKind.u64.wrap (x12))).bind fun t184 => ((bits_OnesCount.f (IntKind.u64.wrap (x7))).bind fun t185 => (if t184 < t185 then ((feed_grid_dead.f k x183000 x183001 x183002 (Go.bits .andNot .i64 x1 x12) x2).bind fun t186 => (if t186 = true then (feed_grid_least.l0 k x1 x2 x12 x11 (wrap64 (x12 + 1)) x183000 x183001 x183002) else (feed_grid_least.l0 k x1 x2 x7 x11 (wrap64 (x12 + 1)) x183000 x183001 x183002))) else (feed_grid_least.l0 k x1 x2 x7 x11 (wrap64 (x12 + 1)) x183000 x183001 x183002)))) else (feed_grid_least.l0 k x1 x2 x7 x11 (wrap64 (x12 + 1)) x183000 x183001 x183002)) else (some x7)
def feed_grid_least.f (k : Nat) (a0_0 : Int) (l0_1 : List (S69)) (l0_2 : List (S71)) (a1 : Int) (a2 : Int) : Option (Int) := (feed_grid_all.f a0_0 l0_1 l0_2).bind fun t183 => (feed_grid_least.l0 k a1 a2 a1 t183 0 a0_0 l0_1 l0_2)
theorem feed_grid_least.mono_l : ∀ k, (∀ y0 y1 y2 y3 y4 y5 y6 y7, LeO (feed_grid_least.l0 k y0 y1 y2 y3 y4 y5 y6 y7) (feed_grid_least.l0 (k + 1) y0 y1 y2 y3 y4 y5 y6 y7))
 | 0 => fun _ _ _ _ _ _ _ _ r h => by simp [feed_grid_least.l0] at h
 | k + 1 => by
  have ih0 := feed_grid_least.mono_l k
  ·
   intro y0 y1 y2 y3 y4 y5 y6 y7
   unfold feed_grid_least.l0
   repeat' first
   | (with_reducible exact ih0 _ _ _ _ _ _ _ _)
   | (with_reducible exact feed_grid_dead.mono _ _ _ _ _ _)
   | (with_reducible exact LeO.refl _)
   | (with_reducible exact LeO.none _)
   | (with_reducible refine LeO.ite ?_ ?_)
   | (with_reducible refine LeO.bind ?_ (fun _ => ?_))
   | exact ih0 _ _ _ _ _ _ _ _
   | exact feed_grid_dead.mono _ _ _ _ _ _
   | exact LeO.none _
   | refine LeO.ite ?_ ?_
   | refine LeO.bind ?_ (fun _ => ?_)
theorem feed_grid_least.mono : ∀ a0 a1 a2 a3 a4 k, LeO (feed_grid_least.f k a0 a1 a2 a3 a4) (feed_grid_least.f (k + 1) a0 a1 a2 a3 a4) := by
 intro a0 a1 a2 a3 a4 k
 have ih0 := feed_grid_least.mono_l k
 unfold feed_grid_least.f
 repeat' first
   | (with_reducible exact ih0 _ _ _ _ _ _ _ _)
   | (with_reducible exact feed_grid_dead.mono _ _ _ _ _ _)
   | (with_reducible exact LeO.refl _)
   | (with_reducible exact LeO.none _)
   | (with_reducible refine LeO.ite ?_ ?_)
   | (with_reducible refine LeO.bind ?_ (fun _ => ?_))
   | exact ih0 _ _ _ _ _ _ _ _
   | exact feed_grid_dead.mono _ _ _ _ _ _
   | exact LeO.none _
   | refine LeO.ite ?_ ?_
   | refine LeO.bind ?_ (fun _ => ?_)
set_option maxHeartbeats 8000000 in
set_option maxRecDepth 100000 in
theorem feed_grid_least.calls (k : Nat) (a0_0 : Int) (A0_1 : Option Addr) (c0_1 : Nat) (l0_1 : List (S69)) (A0_2 : Option Addr) (c0_2 : Nat) (l0_2 : List (S71)) (a1 : Int) (a2 : Int) (r : Int) (w : World) (hr0_1 : Kd.C k69 w A0_1 l0_1.length l0_1) (hc0_1 : l0_1.length ≤ c0_1) (hr0_2 : Kd.C k71 w A0_2 l0_2.length l0_2) (hc0_2 : l0_2.length ≤ c0_2) (h : feed_grid_least.f k a0_0 l0_1 l0_2 a1 a2 = some r) :
  Calls Tryd.prog 64 #[.agg #[.int .i64 a0_0, .slice A0_1 l0_1.length c0_1, .slice A0_2 l0_2.length c0_2], .int .i64 a1, .int .i64 a2] w fun e w' => e = .returned (.int .i64 r) ∧ Below w.heap.size w w' := by
 have hu73 := Tryd.underlying73
 have HR0_1 := Aside0.mk hr0_1
 have HC0_1 := Aside0.mk hc0_1
 clear hr0_1 hc0_1
 have HR0_2 := Aside0.mk hr0_2
 have HC0_2 := Aside0.mk hc0_2
 clear hr0_2 hc0_2
 have HB := Aside0.mk (Below.refl w.heap.size w)
 have H : ((feed_grid_all.f a0_0 l0_1 l0_2).bind fun t183 => (feed_grid_least.l0 k a1 a2 a1 t183 0 a0_0 l0_1 l0_2)) = some r := h
 clear h
 replace H := Option.bind_eq_some_iff.mp H
 obtain ⟨t183, A40, H⟩ := H
 replace H : (feed_grid_least.l0 k a1 a2 a1 t183 0 a0_0 l0_1 l0_2) = some r := H
 have A4 := Aside0.mk A40
 clear A40
 have H' := Aside0.mk H
 clear H
 go_enter Tryd.func64, Tryd.ntmps64
 go_wp2_with (first | ((with_reducible refine gate_dst (N := 3) rfl ?_); refine box_event ?hg (N := 3) ?hd (cs := #[.int .i64 a0_0, .slice A0_1 l0_1.length c0_1, .slice A0_2 l0_2.length c0_2]) (t := 73) ?hr ?_; (case hd => rfl); (case hg => rfl); (case hr => first | (go_simp; done) | (go_simp; rfl)); intro gb182 hg w5 hbox hb; have BK182 := Aside0.mk (hbox); have GW182 := bsz (w := w) hg; have GE182 := GW182; replace HB := Aside0.mk (below_step bel hb); clear hb hbox hg; have hcz6_0 := blkc BK182.out 0 (.int .i64 a0_0) rfl; have hcz6_1 := blkc BK182.out 1 (.slice A0_1 l0_1.length c0_1) rfl; have hcz6_2 := blkc BK182.out 2 (.slice A0_2 l0_2.length c0_2) rfl) | ((with_reducible refine gate_callee (f := 52) rfl ?_); refine goesL_ (some 11) rfl rfl Tryd.func52 (by kernel_rfl) rfl #[.agg #[.int .i64 a0_0, .slice A0_1 l0_1.length c0_1, .slice A0_2 l0_2.length c0_2]] rfl mapz ?_; (with_reducible refine (feed_grid_all.calls a0_0 _ _ l0_1 _ _ l0_2 t183 _ ?side1 ?side2 ?side3 ?side4 A4.out).mono ?_); (case side1 => exact cbz HR0_1); (case side2 => exact HC0_1.out); (case side3 => exact cbz HR0_2); (case side4 => exact HC0_2.out); rintro e w7 ⟨rfl, hb⟩; refine ⟨_, rfl, ?_⟩; replace BK182 := Aside0.mk (blk_below (g := gb182) blkz hb); replace HB := Aside0.mk (below_step bel hb); (try clear hb); (try clear hb2); (try clear hk); (try clear hi)))
 go_loopg [7, 12] k (fun kq v7 v12 w' => ∃ (x7_1 : Int) (x12_1 : Int), v7 = .int .i64 x7_1 ∧ v12 = .int .i64 x12_1 ∧ Aside0 (feed_grid_least.l0 kq a1 a2 x7_1 t183 x12_1 a0_0 l0_1 l0_2 = some r) ∧ Aside0 (kq ≤ k) ∧ Aside0 (w'.heap[gb182]? = some (.cells #[.int .i64 a0_0, (.slice A0_1 l0_1.length c0_1), (.slice A0_2 l0_2.length c0_2)] 73 (0, 0))) ∧ Aside0 (Below w.heap.size w w'))
 case atStart => exact ⟨(a1), (0), rsz, rsz, H', ⟨Nat.le_refl _⟩, ⟨blkz⟩, ⟨bel⟩⟩
 case round =>
  clear H'
  try clear p2
  try clear c5
  try clear c6
  try clear hcz6_0
  try clear hcz6_1
  try clear hcz6_2
  try clear hfz6_0
  try clear hfz6_1
  try clear hfz6_2
  obtain ⟨x7_1, x12_1, rfl, rfl, HA, HK1, BK182, HB⟩ := hrel
  cases gk with
  | zero => exact absurd HA.out (by simp [feed_grid_least.l0])
  | succ k1 =>
   have H := HA.out
   clear HA
   simp only [feed_grid_least.l0] at H
   by_cases c8 : x12_1 < t183
   ·
    rw [if_pos c8] at H
    have c8b0 : decide (x12_1 < t183) = true := decide_eq_true c8
    clear c8
    by_cases c9 : (Go.bits .andNot .i64 x12_1 a1) = 0
    ·
     rw [if_pos c9] at H
     have c9b0 : ((Go.bits .andNot .i64 x12_1 a1) == 0) = true := beq_iff_eq.mpr c9
     have c9b1 : ((Go.bits .andNot .i64 x12_1 a1) != 0) = false := bne_eq_false_iff_eq.mpr c9
     clear c9
     replace H := Option.bind_eq_some_iff.mp H
     obtain ⟨t184, A100, H⟩ := H
     replace H : ((bits_OnesCount.f (IntKind.u64.wrap (x7_1))).bind fun t185 => (if t184 < t185 then ((feed_grid_dead.f k1 a0_0 l0_1 l0_2 (Go.bits .andNot .i64 a1 x12_1) a2).bind fun t186 => (if t186 = true then (feed_grid_least.l0 k1 a1 a2 x12_1 t183 (wrap64 (x12_1 + 1)) a0_0 l0_1 l0_2) else (feed_grid_least.l0 k1 a1 a2 x7_1 t183 (wrap64 (x12_1 + 1)) a0_0 l0_1 l0_2))) else (feed_grid_least.l0 k1 a1 a2 x7_1 t183 (wrap64 (x12_1 + 1)) a0_0 l0_1 l0_2))) = some r := H
     have A10 := Aside0.mk A100
     clear A100
     replace H := Option.bind_eq_some_iff.mp H
     obtain ⟨t185, A110, H⟩ := H
     replace H : (if t184 < t185 then ((feed_grid_dead.f k1 a0_0 l0_1 l0_2 (Go.bits .andNot .i64 a1 x12_1) a2).bind fun t186 => (if t186 = true then (feed_grid_least.l0 k1 a1 a2 x12_1 t183 (wrap64 (x12_1 + 1)) a0_0 l0_1 l0_2) else (feed_grid_least.l0 k1 a1 a2 x7_1 t183 (wrap64 (x12_1 + 1)) a0_0 l0_1 l0_2))) else (feed_grid_least.l0 k1 a1 a2 x7_1 t183 (wrap64 (x12_1 + 1)) a0_0 l0_1 l0_2)) = some r := H
     have A11 := Aside0.mk A110
     clear A110
     by_cases c12 : t184 < t185
     ·
      rw [if_pos c12] at H
      have c12b0 : decide (t184 < t185) = true := decide_eq_true c12
      clear c12
      replace H := Option.bind_eq_some_iff.mp H
      obtain ⟨t186, A130, H⟩ := H
      replace H : (if t186 = true then (feed_grid_least.l0 k1 a1 a2 x12_1 t183 (wrap64 (x12_1 + 1)) a0_0 l0_1 l0_2) else (feed_grid_least.l0 k1 a1 a2 x7_1 t183 (wrap64 (x12_1 + 1)) a0_0 l0_1 l0_2)) = some r := H
      have A13 := Aside0.mk A130
      clear A130
      by_cases c14 : t186 = true
      ·
       subst c14
       have H1 : (feed_grid_least.l0 k1 a1 a2 x12_1 t183 (wrap64 (x12_1 + 1)) a0_0 l0_1 l0_2) = some r := by rw [if_pos rfl] at H; exact H
       clear H
       have H := H1
       clear H1
       have H' := Aside0.mk H
       clear H
       go_wp2_with (first | (go_at_call 80; (with_reducible refine (bits_OnesCount.calls (IntKind.u64.wrap (x12_1)) t184 _ A10.out).mono ?_); rintro e w' ⟨rfl, ⟨nd, rfl⟩⟩) | (go_at_call 80; (with_reducible refine (bits_OnesCount.calls (IntKind.u64.wrap (x7_1)) t185 _ A11.out).mono ?_); rintro e w' ⟨rfl, ⟨nd, rfl⟩⟩; have hcz15_0 := blkc BK182.out 0 (.int .i64 a0_0) rfl; have hcz15_1 := blkc BK182.out 1 (.slice A0_1 l0_1.length c0_1) rfl; have hcz15_2 := blkc BK182.out 2 (.slice A0_2 l0_2.length c0_2) rfl) | (go_at_call 60; (with_reducible refine (feed_grid_dead.calls k1 a0_0 _ _ l0_1 _ _ l0_2 (Go.bits .andNot .i64 a1 x12_1) a2 true _ ?side1 ?side2 ?side3 ?side4 A13.out).mono ?_); (case side1 => repeat (first | exact (Kd.C_below HR0_1.out bel) | (with_reducible refine Kd.C_alloc ?_ _) | (with_reducible refine Kd.C_drewN ?_ _) | (with_reducible refine Kd.C_drew ?_))); (case side2 => exact HC0_1.out); (case side3 => repeat (first | exact (Kd.C_below HR0_2.out bel) | (with_reducible refine Kd.C_alloc ?_ _) | (with_reducible refine Kd.C_drewN ?_ _) | (with_reducible refine Kd.C_drew ?_))); (case side4 => exact HC0_2.out); rintro e w16 ⟨rfl, hb⟩; replace BK182 := Aside0.mk (blk_below (g := gb182) blkz hb); replace HB := Aside0.mk (below_step bel hb); (try clear hb); (try clear hb2); (try clear hk); (try clear hi)))
       go_roundg k1
       case measure => have := HK1.out; omega
       case rel => exact ⟨(x12_1), (wrap64 (x12_1 + 1)), rsz, rsz, H', ⟨by have := HK1.out; omega⟩, ⟨blkz⟩, ⟨bel⟩⟩
      ·
       replace c14 := Bool.eq_false_iff.mpr c14
       subst c14
       have H1 : (feed_grid_least.l0 k1 a1 a2 x7_1 t183 (wrap64 (x12_1 + 1)) a0_0 l0_1 l0_2) = some r := by rw [if_neg (show ¬ (false = true) by decide)] at H; exact H
       clear H
       have H := H1
       clear H1
       have H' := Aside0.mk H
       clear H
       go_wp2_with (first | (go_at_call 80; (with_reducible refine (bits_OnesCount.calls (IntKind.u64.wrap (x12_1)) t184 _ A10.out).mono ?_); rintro e w' ⟨rfl, ⟨nd, rfl⟩⟩) | (go_at_call 80; (with_reducible refine (bits_OnesCount.calls (IntKind.u64.wrap (x7_1)) t185 _ A11.out).mono ?_); rintro e w' ⟨rfl, ⟨nd, rfl⟩⟩; have hcz17_0 := blkc BK182.out 0 (.int .i64 a0_0) rfl; have hcz17_1 := blkc BK182.out 1 (.slice A0_1 l0_1.length c0_1) rfl; have hcz17_2 := blkc BK182.out 2 (.slice A0_2 l0_2.length c0_2) rfl) | (go_at_call 60; (with_reducible refine (feed_grid_dead.calls k1 a0_0 _ _ l0_1 _ _ l0_2 (Go.bits .andNot .i64 a1 x12_1) a2 false _ ?side1 ?side2 ?side3 ?side4 A13.out).mono ?_); (case side1 => repeat (first | exact (Kd.C_below HR0_1.out bel) | (with_reducible refine Kd.C_alloc ?_ _) | (with_reducible refine Kd.C_drewN ?_ _) | (with_reducible refine Kd.C_drew ?_))); (case side2 => exact HC0_1.out); (case side3 => repeat (first | exact (Kd.C_below HR0_2.out bel) | (with_reducible refine Kd.C_alloc ?_ _) | (with_reducible refine Kd.C_drewN ?_ _) | (with_reducible refine Kd.C_drew ?_))); (case side4 => exact HC0_2.out); rintro e w18 ⟨rfl, hb⟩; replace BK182 := Aside0.mk (blk_below (g := gb182) blkz hb); replace HB := Aside0.mk (below_step bel hb); (try clear hb); (try clear hb2); (try clear hk); (try clear hi)))
       go_roundg k1
       case measure => have := HK1.out; omega
       case rel => exact ⟨(x7_1), (wrap64 (x12_1 + 1)), rsz, rsz, H', ⟨by have := HK1.out; omega⟩, ⟨blkz⟩, ⟨bel⟩⟩
     ·
      rw [if_neg c12] at H
      have c12b0 : decide (t184 < t185) = false := decide_eq_false c12
      clear c12
      have H' := Aside0.mk H
      clear H
      go_wp2_with (first | (go_at_call 80; (with_reducible refine (bits_OnesCount.calls (IntKind.u64.wrap (x12_1)) t184 _ A10.out).mono ?_); rintro e w' ⟨rfl, ⟨nd, rfl⟩⟩) | (go_at_call 80; (with_reducible refine (bits_OnesCount.calls (IntKind.u64.wrap (x7_1)) t185 _ A11.out).mono ?_); rintro e w' ⟨rfl, ⟨nd, rfl⟩⟩))
      go_roundg k1
      case measure => have := HK1.out; omega
      case rel => exact ⟨(x7_1), (wrap64 (x12_1 + 1)), rsz, rsz, H', ⟨by have := HK1.out; omega⟩, ⟨blkz⟩, ⟨bel⟩⟩
    ·
     rw [if_neg c9] at H
     have c9b0 : ((Go.bits .andNot .i64 x12_1 a1) == 0) = false := beq_eq_false_iff_ne.mpr c9
     have c9b1 : ((Go.bits .andNot .i64 x12_1 a1) != 0) = true := bne_iff_ne.mpr c9
     have H' := Aside0.mk H
     clear H
     go_wp2
     go_roundg k1
     case measure => have := HK1.out; omega
     case rel => exact ⟨(x7_1), (wrap64 (x12_1 + 1)), rsz, rsz, H', ⟨by have := HK1.out; omega⟩, ⟨blkz⟩, ⟨bel⟩⟩
   ·
    rw [if_neg c8] at H
    have c8b0 : decide (x12_1 < t183) = false := decide_eq_false c8
    clear c8
    obtain rfl := Option.some.inj H
    go_wp2
    go_ret
    exact ⟨ezz, bel⟩

/-! ### feed_Isolate: function 24 -/
def feed_Isolate.f (k : Nat) (a0_0 : Int) (l0_1 : List (S69)) (l0_2 : List (S71)) (a1 : Int) (a2 : Int) : Option (List Int × Int) := (feed_asked.f a0_0 l0_1 l0_2 a1 a2).bind fun bt188 => (if bt188.2 = 0 then ((feed_grid_atHome.f bt188.1 l0_1 l0_2 a2).bind fun t197 => (if t197 = true then (some (([] : List Int), 5)) else ((feed_grid_least.f k bt188.1 l0_1 l0_2 a1 a2).bind fun t198 => ((feed_list.f k t198).bind fun t199 => (some (t199, 0)))))) else (some (([] : List Int), bt188.2)))
theorem feed_Isolate.mono : ∀ a0 a1 a2 a3 a4 k, LeO (feed_Isolate.f k a0 a1 a2 a3 a4) (feed_Isolate.f (k + 1) a0 a1 a2 a3 a4) := by
 intro a0 a1 a2 a3 a4 k
 unfold feed_Isolate.f
 repeat' first
   | (with_reducible exact feed_grid_least.mono _ _ _ _ _ _)
   | (with_reducible exact feed_list.mono _ _)
   | (with_reducible exact LeO.refl _)
   | (with_reducible exact LeO.none _)
   | (with_reducible refine LeO.ite ?_ ?_)
   | (with_reducible refine LeO.bind ?_ (fun _ => ?_))
   | exact feed_grid_least.mono _ _ _ _ _ _
   | exact feed_list.mono _ _
   | exact LeO.none _
   | refine LeO.ite ?_ ?_
   | refine LeO.bind ?_ (fun _ => ?_)
set_option maxHeartbeats 8000000 in
set_option maxRecDepth 100000 in
theorem feed_Isolate.calls (k : Nat) (a0_0 : Int) (A0_1 : Option Addr) (c0_1 : Nat) (l0_1 : List (S69)) (A0_2 : Option Addr) (c0_2 : Nat) (l0_2 : List (S71)) (a1 : Int) (a2 : Int) (r1 : List Int) (r2 : Int) (w : World) (hr0_1 : Kd.C k69 w A0_1 l0_1.length l0_1) (hc0_1 : l0_1.length ≤ c0_1) (hr0_2 : Kd.C k71 w A0_2 l0_2.length l0_2) (hc0_2 : l0_2.length ≤ c0_2) (hT : Tab.Tabs w) (h : feed_Isolate.f k a0_0 l0_1 l0_2 a1 a2 = some (r1, r2)) :
  Calls Tryd.prog 24 #[.agg #[.int .i64 a0_0, .slice A0_1 l0_1.length c0_1, .slice A0_2 l0_2.length c0_2], .int .i64 a1, .int .i64 a2] w fun e w' => ∃ v0_ : Value, e = .returned (.tuple #[v0_, .int .i64 r2]) ∧ Kd.R (Kd.int .i64) 3 w' w.heap.size (fun _ => True) v0_ r1 ∧ Below w.heap.size w w' := by
 have HT := Aside0.mk hT
 clear hT
 have hu25 := Tryd.underlying25
 have hu73 := Tryd.underlying73
 have HR0_1 := Aside0.mk hr0_1
 have HC0_1 := Aside0.mk hc0_1
 clear hr0_1 hc0_1
 have HR0_2 := Aside0.mk hr0_2
 have HC0_2 := Aside0.mk hc0_2
 clear hr0_2 hc0_2
 have HB := Aside0.mk (Below.refl w.heap.size w)
 have H : ((feed_asked.f a0_0 l0_1 l0_2 a1 a2).bind fun bt188 => (if bt188.2 = 0 then ((feed_grid_atHome.f bt188.1 l0_1 l0_2 a2).bind fun t197 => (if t197 = true then (some (([] : List Int), 5)) else ((feed_grid_least.f k bt188.1 l0_1 l0_2 a1 a2).bind fun t198 => ((feed_list.f k t198).bind fun t199 => (some (t199, 0)))))) else (some (([] : List Int), bt188.2)))) = some (r1, r2) := h
 clear h
 replace H := Option.bind_eq_some_iff.mp H
 obtain ⟨⟨t188, t195⟩, A40, H⟩ := H
 replace H : (if t195 = 0 then ((feed_grid_atHome.f t188 l0_1 l0_2 a2).bind fun t197 => (if t197 = true then (some (([] : List Int), 5)) else ((feed_grid_least.f k t188 l0_1 l0_2 a1 a2).bind fun t198 => ((feed_list.f k t198).bind fun t199 => (some (t199, 0)))))) else (some (([] : List Int), t195))) = some (r1, r2) := H
 have A4 := Aside0.mk A40
 clear A40
 by_cases c5 : t195 = 0
 ·
  rw [if_pos c5] at H
  have c5b0 : (t195 == 0) = true := beq_iff_eq.mpr c5
  have c5b1 : (t195 != 0) = false := bne_eq_false_iff_eq.mpr c5
  clear c5
  replace H := Option.bind_eq_some_iff.mp H
  obtain ⟨t197, A60, H⟩ := H
  replace H : (if t197 = true then (some (([] : List Int), 5)) else ((feed_grid_least.f k t188 l0_1 l0_2 a1 a2).bind fun t198 => ((feed_list.f k t198).bind fun t199 => (some (t199, 0))))) = some (r1, r2) := H
  have A6 := Aside0.mk A60
  clear A60
  by_cases c7 : t197 = true
  ·
   subst c7
   have H1 : (some (([] : List Int), 5)) = some (r1, r2) := by rw [if_pos rfl] at H; exact H
   clear H
   have H := H1
   clear H1
   simp only [Option.some.injEq, Prod.mk.injEq] at H
   obtain ⟨rfl, rfl⟩ := H
   go_enter Tryd.func24, Tryd.ntmps24
   go_wp2_with (first | ((with_reducible refine gate_dst (N := 3) rfl ?_); refine box_event ?hg (N := 3) ?hd (cs := #[.int .i64 a0_0, .slice A0_1 l0_1.length c0_1, .slice A0_2 l0_2.length c0_2]) (t := 25) ?hr ?_; (case hd => rfl); (case hg => rfl); (case hr => first | (go_simp; done) | (go_simp; rfl)); intro gb187 hg w8 hbox hb; have BK187 := Aside0.mk (hbox); have GW187 := bsz (w := w) hg; have GE187 := GW187; replace HB := Aside0.mk (below_step bel hb); clear hb hbox hg; have hcz9_0 := blkc BK187.out 0 (.int .i64 a0_0) rfl; have hcz9_1 := blkc BK187.out 1 (.slice A0_1 l0_1.length c0_1) rfl; have hcz9_2 := blkc BK187.out 2 (.slice A0_2 l0_2.length c0_2) rfl) | ((with_reducible refine gate_callee (f := 59) rfl ?_); refine goesL_ (some 14) rfl rfl Tryd.func59 (by kernel_rfl) rfl #[.agg #[.int .i64 a0_0, .slice A0_1 l0_1.length c0_1, .slice A0_2 l0_2.length c0_2], .int .i64 a1, .int .i64 a2] rfl mapz ?_; (with_reducible refine (feed_asked.calls a0_0 _ _ l0_1 _ _ l0_2 a1 a2 t188 t195 _ ?side1 ?side2 ?side3 ?side4 A4.out).mono ?_); (case side1 => exact cbz HR0_1); (case side2 => exact HC0_1.out); (case side3 => exact cbz HR0_2); (case side4 => exact HC0_2.out); rintro e w10 ⟨rfl, hb⟩; refine ⟨_, rfl, ?_⟩; replace BK187 := Aside0.mk (blk_below (g := gb187) blkz hb); replace HB := Aside0.mk (below_step bel hb); (try clear hb); (try clear hb2); (try clear hk); (try clear hi)) | ((with_reducible refine gate_dst (N := 8) rfl ?_); refine box_event ?hg (N := 8) ?hd (cs := #[.int .i64 0, .slice none 0 0, .slice none 0 0]) (t := 73) ?hr ?_; (case hd => rfl); (case hg => rfl); (case hr => first | (go_simp; done) | (go_simp; rfl)); intro gb196 hg w11 hbox hb; have BK196 := Aside0.mk (hbox); have GW196 := bsz (w := w) hg; have GE196 := GW196; have NB187_196 := neL (g := gb187) hg; have NB196_187 := neR (g := gb187) hg; replace BK187 := Aside0.mk (blk_below (g := gb187) blkz hb); replace HB := Aside0.mk (below_step bel hb); clear hb hbox hg; have hnb12 := NB196_187.out; have hnc12 := NB187_196.out; have hcz13_0 := blkc BK196.out 0 (.int .i64 0) rfl; have hcz13_1 := blkc BK196.out 1 (.slice none 0 0) rfl; have hcz13_2 := blkc BK196.out 2 (.slice none 0 0) rfl; have hfz13_0 := blk_frozen BK196.out 0; have hfz13_1 := blk_frozen BK196.out 1; have hfz13_2 := blk_frozen BK196.out 2) | ((with_reducible refine gate_callee (f := 62) rfl ?_); refine goesL_ (some 24) rfl rfl Tryd.func62 (by kernel_rfl) rfl #[.agg #[.int .i64 t188, .slice A0_1 l0_1.length c0_1, .slice A0_2 l0_2.length c0_2], .int .i64 a2] rfl mapz ?_; (with_reducible refine (feed_grid_atHome.calls t188 _ _ l0_1 _ _ l0_2 a2 true _ ?side1 ?side2 ?side3 ?side4 A6.out).mono ?_); (case side1 => exact cbz HR0_1); (case side2 => exact HC0_1.out); (case side3 => exact cbz HR0_2); (case side4 => exact HC0_2.out); rintro e w14 ⟨rfl, hb⟩; refine ⟨_, rfl, ?_⟩; replace BK187 := Aside0.mk (blk_below (g := gb187) (o := .cells #[.int .i64 a0_0, .slice A0_1 l0_1.length c0_1, .slice A0_2 l0_2.length c0_2] 25 (0, 0)) (by (with_reducible repeat (first | refine blk_drewN ?_ _ | refine blk_drew ?_ | refine blk_alloc ?_ _)); refine blk_far ?_ NB187_196.out _; (with_reducible repeat (first | refine blk_drewN ?_ _ | refine blk_drew ?_ | refine blk_alloc ?_ _)); refine blk_far ?_ NB187_196.out _; (with_reducible repeat (first | refine blk_drewN ?_ _ | refine blk_drew ?_ | refine blk_alloc ?_ _)); refine blk_far ?_ NB187_196.out _; (with_reducible repeat (first | refine blk_drewN ?_ _ | refine blk_drew ?_ | refine blk_alloc ?_ _)); exact BK187.out) hb); replace BK196 := Aside0.mk (blk_below (g := gb196) (o := .cells #[.int .i64 t188, .slice A0_1 l0_1.length c0_1, .slice A0_2 l0_2.length c0_2] 73 (0, 0)) (by (with_reducible repeat (first | refine blk_drewN ?_ _ | refine blk_drew ?_ | refine blk_alloc ?_ _)); refine blk_put (cs := #[.int .i64 t188, .slice A0_1 l0_1.length c0_1, .slice none 0 0]) ?_ 2 _ rfl; (with_reducible repeat (first | refine blk_drewN ?_ _ | refine blk_drew ?_ | refine blk_alloc ?_ _)); refine blk_put (cs := #[.int .i64 t188, .slice none 0 0, .slice none 0 0]) ?_ 1 _ rfl; (with_reducible repeat (first | refine blk_drewN ?_ _ | refine blk_drew ?_ | refine blk_alloc ?_ _)); refine blk_put (cs := #[.int .i64 0, .slice none 0 0, .slice none 0 0]) ?_ 0 _ rfl; (with_reducible repeat (first | refine blk_drewN ?_ _ | refine blk_drew ?_ | refine blk_alloc ?_ _)); exact BK196.out) hb); replace HB := Aside0.mk (below_step bel hb); (try clear hb); (try clear hb2); (try clear hk); (try clear hi)))
   go_ret2
   exact ⟨_, ezz, by first | exact Kd.R_nil _ _ _ _ _ | exact Kd.N_nil _ _ _ _ _ | exact Kd.V_nil _ _ _ _ _ | exact Kd.Q_nil _ _ _ _ _ | exact Kd.S_nil _ _ _ _ _, bel⟩
  ·
   replace c7 := Bool.eq_false_iff.mpr c7
   subst c7
   have H1 : ((feed_grid_least.f k t188 l0_1 l0_2 a1 a2).bind fun t198 => ((feed_list.f k t198).bind fun t199 => (some (t199, 0)))) = some (r1, r2) := by rw [if_neg (show ¬ (false = true) by decide)] at H; exact H
   clear H
   have H := H1
   clear H1
   replace H := Option.bind_eq_some_iff.mp H
   obtain ⟨t198, A150, H⟩ := H
   replace H : ((feed_list.f k t198).bind fun t199 => (some (t199, 0))) = some (r1, r2) := H
   have A15 := Aside0.mk A150
   clear A150
   replace H := Option.bind_eq_some_iff.mp H
   obtain ⟨t199, A160, H⟩ := H
   replace H : (some (t199, 0)) = some (r1, r2) := H
   have A16 := Aside0.mk A160
   clear A160
   simp only [Option.some.injEq, Prod.mk.injEq] at H
   obtain ⟨rfl, rfl⟩ := H
   go_enter Tryd.func24, Tryd.ntmps24
   go_wp2_with (first | ((with_reducible refine gate_dst (N := 3) rfl ?_); refine box_event ?hg (N := 3) ?hd (cs := #[.int .i64 a0_0, .slice A0_1 l0_1.length c0_1, .slice A0_2 l0_2.length c0_2]) (t := 25) ?hr ?_; (case hd => rfl); (case hg => rfl); (case hr => first | (go_simp; done) | (go_simp; rfl)); intro gb187 hg w17 hbox hb; have BK187 := Aside0.mk (hbox); have GW187 := bsz (w := w) hg; have GE187 := GW187; replace HB := Aside0.mk (below_step bel hb); clear hb hbox hg; have hcz18_0 := blkc BK187.out 0 (.int .i64 a0_0) rfl; have hcz18_1 := blkc BK187.out 1 (.slice A0_1 l0_1.length c0_1) rfl; have hcz18_2 := blkc BK187.out 2 (.slice A0_2 l0_2.length c0_2) rfl) | ((with_reducible refine gate_callee (f := 59) rfl ?_); refine goesL_ (some 14) rfl rfl Tryd.func59 (by kernel_rfl) rfl #[.agg #[.int .i64 a0_0, .slice A0_1 l0_1.length c0_1, .slice A0_2 l0_2.length c0_2], .int .i64 a1, .int .i64 a2] rfl mapz ?_; (with_reducible refine (feed_asked.calls a0_0 _ _ l0_1 _ _ l0_2 a1 a2 t188 t195 _ ?side1 ?side2 ?side3 ?side4 A4.out).mono ?_); (case side1 => exact cbz HR0_1); (case side2 => exact HC0_1.out); (case side3 => exact cbz HR0_2); (case side4 => exact HC0_2.out); rintro e w19 ⟨rfl, hb⟩; refine ⟨_, rfl, ?_⟩; replace BK187 := Aside0.mk (blk_below (g := gb187) blkz hb); replace HB := Aside0.mk (below_step bel hb); (try clear hb); (try clear hb2); (try clear hk); (try clear hi)) | ((with_reducible refine gate_dst (N := 8) rfl ?_); refine box_event ?hg (N := 8) ?hd (cs := #[.int .i64 0, .slice none 0 0, .slice none 0 0]) (t := 73) ?hr ?_; (case hd => rfl); (case hg => rfl); (case hr => first | (go_simp; done) | (go_simp; rfl)); intro gb196 hg w20 hbox hb; have BK196 := Aside0.mk (hbox); have GW196 := bsz (w := w) hg; have GE196 := GW196; have NB187_196 := neL (g := gb187) hg; have NB196_187 := neR (g := gb187) hg; replace BK187 := Aside0.mk (blk_below (g := gb187) blkz hb); replace HB := Aside0.mk (below_step bel hb); clear hb hbox hg; have hnb21 := NB196_187.out; have hnc21 := NB187_196.out; have hcz22_0 := blkc BK196.out 0 (.int .i64 0) rfl; have hcz22_1 := blkc BK196.out 1 (.slice none 0 0) rfl; have hcz22_2 := blkc BK196.out 2 (.slice none 0 0) rfl; have hfz22_0 := blk_frozen BK196.out 0; have hfz22_1 := blk_frozen BK196.out 1; have hfz22_2 := blk_frozen BK196.out 2) | ((with_reducible refine gate_callee (f := 62) rfl ?_); refine goesL_ (some 24) rfl rfl Tryd.func62 (by kernel_rfl) rfl #[.agg #[.int .i64 t188, .slice A0_1 l0_1.length c0_1, .slice A0_2 l0_2.length c0_2], .int .i64 a2] rfl mapz ?_; (with_reducible refine (feed_grid_atHome.calls t188 _ _ l0_1 _ _ l0_2 a2 false _ ?side1 ?side2 ?side3 ?side4 A6.out).mono ?_); (case side1 => exact cbz HR0_1); (case side2 => exact HC0_1.out); (case side3 => exact cbz HR0_2); (case side4 => exact HC0_2.out); rintro e w23 ⟨rfl, hb⟩; refine ⟨_, rfl, ?_⟩; replace BK187 := Aside0.mk (blk_below (g := gb187) (o := .cells #[.int .i64 a0_0, .slice A0_1 l0_1.length c0_1, .slice A0_2 l0_2.length c0_2] 25 (0, 0)) (by (with_reducible repeat (first | refine blk_drewN ?_ _ | refine blk_drew ?_ | refine blk_alloc ?_ _)); refine blk_far ?_ NB187_196.out _; (with_reducible repeat (first | refine blk_drewN ?_ _ | refine blk_drew ?_ | refine blk_alloc ?_ _)); refine blk_far ?_ NB187_196.out _; (with_reducible repeat (first | refine blk_drewN ?_ _ | refine blk_drew ?_ | refine blk_alloc ?_ _)); refine blk_far ?_ NB187_196.out _; (with_reducible repeat (first | refine blk_drewN ?_ _ | refine blk_drew ?_ | refine blk_alloc ?_ _)); exact BK187.out) hb); replace BK196 := Aside0.mk (blk_below (g := gb196) (o := .cells #[.int .i64 t188, .slice A0_1 l0_1.length c0_1, .slice A0_2 l0_2.length c0_2] 73 (0, 0)) (by (with_reducible repeat (first | refine blk_drewN ?_ _ | refine blk_drew ?_ | refine blk_alloc ?_ _)); refine blk_put (cs := #[.int .i64 t188, .slice A0_1 l0_1.length c0_1, .slice none 0 0]) ?_ 2 _ rfl; (with_reducible repeat (first | refine blk_drewN ?_ _ | refine blk_drew ?_ | refine blk_alloc ?_ _)); refine blk_put (cs := #[.int .i64 t188, .slice none 0 0, .slice none 0 0]) ?_ 1 _ rfl; (with_reducible repeat (first | refine blk_drewN ?_ _ | refine blk_drew ?_ | refine blk_alloc ?_ _)); refine blk_put (cs := #[.int .i64 0, .slice none 0 0, .slice none 0 0]) ?_ 0 _ rfl; (with_reducible repeat (first | refine blk_drewN ?_ _ | refine blk_drew ?_ | refine blk_alloc ?_ _)); exact BK196.out) hb); replace HB := Aside0.mk (below_step bel hb); (try clear hb); (try clear hb2); (try clear hk); (try clear hi); have hcz24_0 := blkc BK196.out 0 (.int .i64 t188) rfl; have hcz24_1 := blkc BK196.out 1 (.slice A0_1 l0_1.length c0_1) rfl; have hcz24_2 := blkc BK196.out 2 (.slice A0_2 l0_2.length c0_2) rfl; have hfz24_0 := blk_frozen BK196.out 0; have hfz24_1 := blk_frozen BK196.out 1; have hfz24_2 := blk_frozen BK196.out 2) | ((with_reducible refine gate_callee (f := 64) rfl ?_); refine goesL_ (some 28) rfl rfl Tryd.func64 (by kernel_rfl) rfl #[.agg #[.int .i64 t188, .slice A0_1 l0_1.length c0_1, .slice A0_2 l0_2.length c0_2], .int .i64 a1, .int .i64 a2] rfl mapz ?_; (with_reducible refine (feed_grid_least.calls k t188 _ _ l0_1 _ _ l0_2 a1 a2 t198 _ ?side1 ?side2 ?side3 ?side4 A15.out).mono ?_); (case side1 => exact cbz HR0_1); (case side2 => exact HC0_1.out); (case side3 => exact cbz HR0_2); (case side4 => exact HC0_2.out); rintro e w25 ⟨rfl, hb⟩; refine ⟨_, rfl, ?_⟩; replace BK187 := Aside0.mk (blk_below (g := gb187) blkz hb); replace BK196 := Aside0.mk (blk_below (g := gb196) blkz hb); replace HB := Aside0.mk (below_step bel hb); (try clear hb); (try clear hb2); (try clear hk); (try clear hi)) | ((with_reducible refine gate_callee (f := 63) rfl ?_); refine goesL_ (some 29) rfl rfl Tryd.func63 (by kernel_rfl) rfl #[.int .i64 t198] rfl mapz ?_; (with_reducible refine (feed_list.calls k t198 t199 _ ?sideT A16.out).mono ?_); (case sideT => first | exact HT.out | exact Tab.Tabs.below HT.out bel | (with_reducible repeat (first | exact HT.out | apply Tab.Tabs.alloc | apply Tab.Tabs.drewN | apply Tab.Tabs.drew))); rintro e w26 ⟨v200, rfl, ho0, hb⟩; refine ⟨_, rfl, ?_⟩; have HO201 := Aside0.mk (Kd.R_lower ho0 (below_size bel)); replace BK187 := Aside0.mk (blk_below (g := gb187) blkz hb); replace BK196 := Aside0.mk (blk_below (g := gb196) blkz hb); replace HB := Aside0.mk (below_step bel hb); (try clear hb); (try clear hb2); (try clear hk); (try clear hi); (try clear ho0)))
   go_ret2
   exact ⟨_, ezz, by (with_reducible repeat (first | apply Kd.R_alloc | apply Kd.R_drewN | apply Kd.R_drew)); exact HO201.out, bel⟩
 ·
  rw [if_neg c5] at H
  have c5b0 : (t195 == 0) = false := beq_eq_false_iff_ne.mpr c5
  have c5b1 : (t195 != 0) = true := bne_iff_ne.mpr c5
  simp only [Option.some.injEq, Prod.mk.injEq] at H
  obtain ⟨rfl, rfl⟩ := H
  go_enter Tryd.func24, Tryd.ntmps24
  go_wp2_with (first | ((with_reducible refine gate_dst (N := 3) rfl ?_); refine box_event ?hg (N := 3) ?hd (cs := #[.int .i64 a0_0, .slice A0_1 l0_1.length c0_1, .slice A0_2 l0_2.length c0_2]) (t := 25) ?hr ?_; (case hd => rfl); (case hg => rfl); (case hr => first | (go_simp; done) | (go_simp; rfl)); intro gb187 hg w27 hbox hb; have BK187 := Aside0.mk (hbox); have GW187 := bsz (w := w) hg; have GE187 := GW187; replace HB := Aside0.mk (below_step bel hb); clear hb hbox hg; have hcz28_0 := blkc BK187.out 0 (.int .i64 a0_0) rfl; have hcz28_1 := blkc BK187.out 1 (.slice A0_1 l0_1.length c0_1) rfl; have hcz28_2 := blkc BK187.out 2 (.slice A0_2 l0_2.length c0_2) rfl) | ((with_reducible refine gate_callee (f := 59) rfl ?_); refine goesL_ (some 14) rfl rfl Tryd.func59 (by kernel_rfl) rfl #[.agg #[.int .i64 a0_0, .slice A0_1 l0_1.length c0_1, .slice A0_2 l0_2.length c0_2], .int .i64 a1, .int .i64 a2] rfl mapz ?_; (with_reducible refine (feed_asked.calls a0_0 _ _ l0_1 _ _ l0_2 a1 a2 t188 t195 _ ?side1 ?side2 ?side3 ?side4 A4.out).mono ?_); (case side1 => exact cbz HR0_1); (case side2 => exact HC0_1.out); (case side3 => exact cbz HR0_2); (case side4 => exact HC0_2.out); rintro e w29 ⟨rfl, hb⟩; refine ⟨_, rfl, ?_⟩; replace BK187 := Aside0.mk (blk_below (g := gb187) blkz hb); replace HB := Aside0.mk (below_step bel hb); (try clear hb); (try clear hb2); (try clear hk); (try clear hi)) | ((with_reducible refine gate_dst (N := 8) rfl ?_); refine box_event ?hg (N := 8) ?hd (cs := #[.int .i64 0, .slice none 0 0, .slice none 0 0]) (t := 73) ?hr ?_; (case hd => rfl); (case hg => rfl); (case hr => first | (go_simp; done) | (go_simp; rfl)); intro gb196 hg w30 hbox hb; have BK196 := Aside0.mk (hbox); have GW196 := bsz (w := w) hg; have GE196 := GW196; have NB187_196 := neL (g := gb187) hg; have NB196_187 := neR (g := gb187) hg; replace BK187 := Aside0.mk (blk_below (g := gb187) blkz hb); replace HB := Aside0.mk (below_step bel hb); clear hb hbox hg; have hnb31 := NB196_187.out; have hnc31 := NB187_196.out; have hcz32_0 := blkc BK196.out 0 (.int .i64 0) rfl; have hcz32_1 := blkc BK196.out 1 (.slice none 0 0) rfl; have hcz32_2 := blkc BK196.out 2 (.slice none 0 0) rfl; have hfz32_0 := blk_frozen BK196.out 0; have hfz32_1 := blk_frozen BK196.out 1; have hfz32_2 := blk_frozen BK196.out 2))
  go_ret2
  exact ⟨_, ezz, by first | exact Kd.R_nil _ _ _ _ _ | exact Kd.N_nil _ _ _ _ _ | exact Kd.V_nil _ _ _ _ _ | exact Kd.Q_nil _ _ _ _ _ | exact Kd.S_nil _ _ _ _ _, bel⟩

/-! ### dropperlaw05_First: function 12 -/
def dropperlaw05_First.f (k : Nat)  : Option (Bool) := (feed_Isolate.f k 3 (([(⟨0, 1⟩ : S69), (⟨1, 2⟩ : S69), (⟨0, 2⟩ : S69)] : List (S69))) (([(⟨0, 1⟩ : S71)] : List (S71))) 7 2).bind fun bt209 => ((feed_States.f k 2 (([(⟨0, 1⟩ : S69)] : List (S69))) (([(⟨0, 1⟩ : S71), (⟨1, 2⟩ : S71)] : List (S71)))).bind fun bt219 => (if bt209.2 = 0 then (if bt219.2 = 0 then (if (bt209.1.length : Int) = 2 then (some (bt219.1 == 1)) else (some false)) else (some false)) else (some false)))
theorem dropperlaw05_First.mono : ∀ k, LeO (dropperlaw05_First.f k ) (dropperlaw05_First.f (k + 1) ) := by
 intro  k
 unfold dropperlaw05_First.f
 repeat' first
   | (with_reducible exact feed_Isolate.mono _ _ _ _ _ _)
   | (with_reducible exact feed_States.mono _ _ _ _)
   | (with_reducible exact LeO.refl _)
   | (with_reducible exact LeO.none _)
   | (with_reducible refine LeO.ite ?_ ?_)
   | (with_reducible refine LeO.bind ?_ (fun _ => ?_))
   | exact feed_Isolate.mono _ _ _ _ _ _
   | exact feed_States.mono _ _ _ _
   | exact LeO.none _
   | refine LeO.ite ?_ ?_
   | refine LeO.bind ?_ (fun _ => ?_)
set_option maxHeartbeats 8000000 in
set_option maxRecDepth 100000 in
theorem dropperlaw05_First.calls (k : Nat)  (r : Bool) (w : World) (hT : Tab.Tabs w) (h : dropperlaw05_First.f k  = some r) :
  Calls Tryd.prog 12 #[] w fun e w' => e = .returned (.bool r) ∧ Below w.heap.size w w' := by
 have HT := Aside0.mk hT
 clear hT
 have hu69 := Tryd.underlying69
 have hu71 := Tryd.underlying71
 have hu25 := Tryd.underlying25
 have HB := Aside0.mk (Below.refl w.heap.size w)
 have H : ((feed_Isolate.f k 3 (([(⟨0, 1⟩ : S69), (⟨1, 2⟩ : S69), (⟨0, 2⟩ : S69)] : List (S69))) (([(⟨0, 1⟩ : S71)] : List (S71))) 7 2).bind fun bt209 => ((feed_States.f k 2 (([(⟨0, 1⟩ : S69)] : List (S69))) (([(⟨0, 1⟩ : S71), (⟨1, 2⟩ : S71)] : List (S71)))).bind fun bt219 => (if bt209.2 = 0 then (if bt219.2 = 0 then (if (bt209.1.length : Int) = 2 then (some (bt219.1 == 1)) else (some false)) else (some false)) else (some false)))) = some r := h
 clear h
 obtain ⟨y202, hy202⟩ : ∃ y_ : List (S69), y_ = (([(⟨0, 1⟩ : S69), (⟨1, 2⟩ : S69), (⟨0, 2⟩ : S69)] : List (S69))) := ⟨_, rfl⟩
 replace H : ((feed_Isolate.f k 3 y202 (([(⟨0, 1⟩ : S71)] : List (S71))) 7 2).bind fun bt209 => ((feed_States.f k 2 (([(⟨0, 1⟩ : S69)] : List (S69))) (([(⟨0, 1⟩ : S71), (⟨1, 2⟩ : S71)] : List (S71)))).bind fun bt219 => (if bt209.2 = 0 then (if bt219.2 = 0 then (if (bt209.1.length : Int) = 2 then (some (bt219.1 == 1)) else (some false)) else (some false)) else (some false)))) = some r := by first | (rw [hy202]; with_reducible exact H) | (have H2_ := (Option.bind_some _ _).symm.trans H; rw [hy202]; with_reducible exact H2_) | (have H2_ := (Option.bind_some _ _).symm.trans H; with_reducible exact H2_) | with_reducible exact H | (rw [hy202]; exact H) | exact H
 have Ny202 := Aside0.mk hy202
 clear hy202
 obtain ⟨y205, hy205⟩ : ∃ y_ : List (S71), y_ = (([(⟨0, 1⟩ : S71)] : List (S71))) := ⟨_, rfl⟩
 replace H : ((feed_Isolate.f k 3 y202 y205 7 2).bind fun bt209 => ((feed_States.f k 2 (([(⟨0, 1⟩ : S69)] : List (S69))) (([(⟨0, 1⟩ : S71), (⟨1, 2⟩ : S71)] : List (S71)))).bind fun bt219 => (if bt209.2 = 0 then (if bt219.2 = 0 then (if (bt209.1.length : Int) = 2 then (some (bt219.1 == 1)) else (some false)) else (some false)) else (some false)))) = some r := by first | (rw [hy205]; with_reducible exact H) | (have H2_ := (Option.bind_some _ _).symm.trans H; rw [hy205]; with_reducible exact H2_) | (have H2_ := (Option.bind_some _ _).symm.trans H; with_reducible exact H2_) | with_reducible exact H | (rw [hy205]; exact H) | exact H
 have Ny205 := Aside0.mk hy205
 clear hy205
 replace H := Option.bind_eq_some_iff.mp H
 obtain ⟨⟨t209, t212⟩, A10, H⟩ := H
 replace H : ((feed_States.f k 2 (([(⟨0, 1⟩ : S69)] : List (S69))) (([(⟨0, 1⟩ : S71), (⟨1, 2⟩ : S71)] : List (S71)))).bind fun bt219 => (if t212 = 0 then (if bt219.2 = 0 then (if (t209.length : Int) = 2 then (some (bt219.1 == 1)) else (some false)) else (some false)) else (some false))) = some r := H
 have A1 := Aside0.mk A10
 clear A10
 obtain ⟨y213, hy213⟩ : ∃ y_ : List (S69), y_ = (([(⟨0, 1⟩ : S69)] : List (S69))) := ⟨_, rfl⟩
 replace H : ((feed_States.f k 2 y213 (([(⟨0, 1⟩ : S71), (⟨1, 2⟩ : S71)] : List (S71)))).bind fun bt219 => (if t212 = 0 then (if bt219.2 = 0 then (if (t209.length : Int) = 2 then (some (bt219.1 == 1)) else (some false)) else (some false)) else (some false))) = some r := by first | (rw [hy213]; with_reducible exact H) | (have H2_ := (Option.bind_some _ _).symm.trans H; rw [hy213]; with_reducible exact H2_) | (have H2_ := (Option.bind_some _ _).symm.trans H; with_reducible exact H2_) | with_reducible exact H | (rw [hy213]; exact H) | exact H
 have Ny213 := Aside0.mk hy213
 clear hy213
 obtain ⟨y216, hy216⟩ : ∃ y_ : List (S71), y_ = (([(⟨0, 1⟩ : S71), (⟨1, 2⟩ : S71)] : List (S71))) := ⟨_, rfl⟩
 replace H : ((feed_States.f k 2 y213 y216).bind fun bt219 => (if t212 = 0 then (if bt219.2 = 0 then (if (t209.length : Int) = 2 then (some (bt219.1 == 1)) else (some false)) else (some false)) else (some false))) = some r := by first | (rw [hy216]; with_reducible exact H) | (have H2_ := (Option.bind_some _ _).symm.trans H; rw [hy216]; with_reducible exact H2_) | (have H2_ := (Option.bind_some _ _).symm.trans H; with_reducible exact H2_) | with_reducible exact H | (rw [hy216]; exact H) | exact H
 have Ny216 := Aside0.mk hy216
 clear hy216
 replace H := Option.bind_eq_some_iff.mp H
 obtain ⟨⟨t219, t220⟩, A20, H⟩ := H
 replace H : (if t212 = 0 then (if t220 = 0 then (if (t209.length : Int) = 2 then (some (t219 == 1)) else (some false)) else (some false)) else (some false)) = some r := H
 have A2 := Aside0.mk A20
 clear A20
 by_cases c3 : t212 = 0
 ·
  rw [if_pos c3] at H
  have c3b0 : (t212 == 0) = true := beq_iff_eq.mpr c3
  have c3b1 : (t212 != 0) = false := bne_eq_false_iff_eq.mpr c3
  clear c3
  by_cases c4 : t220 = 0
  ·
   rw [if_pos c4] at H
   have c4b0 : (t220 == 0) = true := beq_iff_eq.mpr c4
   have c4b1 : (t220 != 0) = false := bne_eq_false_iff_eq.mpr c4
   clear c4
   by_cases c5 : (t209.length : Int) = 2
   ·
    rw [if_pos c5] at H
    have c5b0 : ((t209.length : Int) == 2) = true := beq_iff_eq.mpr c5
    have c5b1 : ((t209.length : Int) != 2) = false := bne_eq_false_iff_eq.mpr c5
    clear c5
    obtain rfl := Option.some.inj H
    go_enter Tryd.func12, Tryd.ntmps12
    go_wp2_with (first | ((with_reducible refine gate_dst (N := 9) rfl ?_); (try (refine gate_guard (by rfl) ?_; dsimp only)); refine Kd.R_lit k69 _ 69 ?hg (N := 9) ?hd (xs := ([(⟨0, 1⟩ : S69), (⟨1, 2⟩ : S69), (⟨0, 2⟩ : S69)] : List (S69))) (inner := [.int .i64 0, .int .i64 1, .int .i64 1, .int .i64 2, .int .i64 0, .int .i64 2]) (ok := fun _ => True) (okp := fun _ => True) ?hr ?hp (fun _ hk => hk) trivial (Below.refl _ _) (Nat.le_refl _) (by simp) ?_; (case hd => rfl); (case hg => rfl); (case hr => first | (go_simp; done) | (go_simp; rfl)); (case hp => exact (Reps.c2 (show Kd.M k69 _ _ _ (⟨0, 1⟩ : S69) [.int .i64 0, .int .i64 1] from (k69_mkM _ _ _ (⟨0, 1⟩ : S69) )) (Reps.c2 (show Kd.M k69 _ _ _ (⟨1, 2⟩ : S69) [.int .i64 1, .int .i64 2] from (k69_mkM _ _ _ (⟨1, 2⟩ : S69) )) (Reps.c2 (show Kd.M k69 _ _ _ (⟨0, 2⟩ : S69) [.int .i64 0, .int .i64 2] from (k69_mkM _ _ _ (⟨0, 2⟩ : S69) )) (Reps.none _ _))))); intro v203 w6 ho7 hb hg_ hnew_; clear hg_ hnew_; (first | rw [← Ny202.out] at ho7 | (simp only [Int.reduceToNat] at ho7; rw [← Ny202.out] at ho7)); have HO204 := Aside0.mk (Kd.R_lower ho7 (below_size bel)); replace HB := Aside0.mk (below_step bel hb); clear hb ho7) | ((with_reducible refine gate_dst (N := 11) rfl ?_); (try (refine gate_guard (by rfl) ?_; dsimp only)); refine Kd.R_lit k71 _ 71 ?hg (N := 11) ?hd (xs := ([(⟨0, 1⟩ : S71)] : List (S71))) (inner := [.int .i64 0, .int .i64 1]) (ok := fun _ => True) (okp := fun _ => True) ?hr ?hp (fun _ hk => hk) trivial (Below.refl _ _) (Nat.le_refl _) (by simp) ?_; (case hd => rfl); (case hg => rfl); (case hr => first | (go_simp; done) | (go_simp; rfl)); (case hp => exact (Reps.c2 (show Kd.M k71 _ _ _ (⟨0, 1⟩ : S71) [.int .i64 0, .int .i64 1] from (k71_mkM _ _ _ (⟨0, 1⟩ : S71) )) (Reps.none _ _))); intro v206 w8 ho9 hb hg_ hnew_; clear hg_ hnew_; (first | rw [← Ny205.out] at ho9 | (simp only [Int.reduceToNat] at ho9; rw [← Ny205.out] at ho9)); have HO207 := Aside0.mk (Kd.R_lower ho9 (below_size bel)); replace HO204 := Aside0.mk (Kd.R_below (ownx HO204) hb); replace HB := Aside0.mk (below_step bel hb); clear hb ho9; obtain ⟨Ao10, co10, eo10⟩ := Kd.R_slice HO207.out; subst eo10; obtain ⟨Ao11, co11, eo11⟩ := Kd.R_slice HO204.out; subst eo11) | ((with_reducible refine gate_dst (N := 1) rfl ?_); (try (refine gate_guard (by rfl) ?_; dsimp only)); refine box_event ?hg (N := 1) ?hd (cs := #[.int .i64 0, .slice none 0 0, .slice none 0 0]) (t := 25) ?hr ?_; (case hd => rfl); (case hg => rfl); (case hr => first | (go_simp; done) | (go_simp; rfl)); intro gb208 hg w12 hbox hb; have BK208 := Aside0.mk (hbox); have GW208 := bsz (w := w) hg; have GE208 := GW208; replace HO204 := Aside0.mk (Kd.R_below (ownx HO204) hb); replace HO207 := Aside0.mk (Kd.R_below (ownx HO207) hb); replace HB := Aside0.mk (below_step bel hb); clear hb hbox hg; have hcz13_0 := blkc BK208.out 0 (.int .i64 0) rfl; have hcz13_1 := blkc BK208.out 1 (.slice none 0 0) rfl; have hcz13_2 := blkc BK208.out 2 (.slice none 0 0) rfl; have hfz13_0 := blk_frozen BK208.out 0; have hfz13_1 := blk_frozen BK208.out 1; have hfz13_2 := blk_frozen BK208.out 2) | ((with_reducible refine gate_callee (f := 24) rfl ?_); refine goesL_ (some 15) rfl rfl Tryd.func24 (by kernel_rfl) rfl #[.agg #[.int .i64 3, .slice Ao11 y202.length co11, .slice Ao10 y205.length co10], .int .i64 7, .int .i64 2] rfl mapz ?_; (with_reducible refine (feed_Isolate.calls k 3 _ _ y202 _ _ y205 7 2 t209 t212 _ ?side1 ?side2 ?side3 ?side4 ?sideT A1.out).mono ?_); (case sideT => first | exact HT.out | exact Tab.Tabs.below HT.out bel | (with_reducible repeat (first | exact HT.out | apply Tab.Tabs.alloc | apply Tab.Tabs.drewN | apply Tab.Tabs.drew))); (case side1 => refine (Kd.R_reads' (e := 69) (base := w.heap.size) (ok := fun k_ => True) (n := y202.length) (c := co11) ?_).2.2; exact (by (with_reducible repeat (first | apply Kd.R_alloc | apply Kd.R_drewN | apply Kd.R_drew)); exact (Kd.R_mono (Kd.R_far (p := ⟨gb208, 2, none⟩) (Kd.R_far (p := ⟨gb208, 1, none⟩) (Kd.R_far (p := ⟨gb208, 0, none⟩) (Kd.R_types HO204.out BK208.out (by decide)) (fun _ hk => hk.2) (.int .i64 3)) (fun _ hk => hk.2) (.slice Ao11 y202.length co11)) (fun _ hk => hk.2) (.slice Ao10 y205.length co10)) (fun _ h_ => h_.1)))); (case side2 => exact (Kd.R_reads' HO204.out).2.1); (case side3 => refine (Kd.R_reads' (e := 71) (base := w.heap.size) (ok := fun k_ => True) (n := y205.length) (c := co10) ?_).2.2; exact (by (with_reducible repeat (first | apply Kd.R_alloc | apply Kd.R_drewN | apply Kd.R_drew)); exact (Kd.R_mono (Kd.R_far (p := ⟨gb208, 2, none⟩) (Kd.R_far (p := ⟨gb208, 1, none⟩) (Kd.R_far (p := ⟨gb208, 0, none⟩) (Kd.R_types HO207.out BK208.out (by decide)) (fun _ hk => hk.2) (.int .i64 3)) (fun _ hk => hk.2) (.slice Ao11 y202.length co11)) (fun _ hk => hk.2) (.slice Ao10 y205.length co10)) (fun _ h_ => h_.1)))); (case side4 => exact (Kd.R_reads' HO207.out).2.1); rintro e w14 ⟨v210, rfl, ho0, hb⟩; refine ⟨_, rfl, ?_⟩; have HO211 := Aside0.mk (Kd.R_lower ho0 (below_size bel)); replace HO204 := Aside0.mk (Kd.R_below (by (with_reducible repeat (first | apply Kd.R_alloc | apply Kd.R_drewN | apply Kd.R_drew)); exact (Kd.R_mono (Kd.R_far (p := ⟨gb208, 2, none⟩) (Kd.R_far (p := ⟨gb208, 1, none⟩) (Kd.R_far (p := ⟨gb208, 0, none⟩) (Kd.R_types HO204.out BK208.out (by decide)) (fun _ hk => hk.2) (.int .i64 3)) (fun _ hk => hk.2) (.slice Ao11 y202.length co11)) (fun _ hk => hk.2) (.slice Ao10 y205.length co10)) (fun _ h_ => h_.1))) hb); replace HO207 := Aside0.mk (Kd.R_below (by (with_reducible repeat (first | apply Kd.R_alloc | apply Kd.R_drewN | apply Kd.R_drew)); exact (Kd.R_mono (Kd.R_far (p := ⟨gb208, 2, none⟩) (Kd.R_far (p := ⟨gb208, 1, none⟩) (Kd.R_far (p := ⟨gb208, 0, none⟩) (Kd.R_types HO207.out BK208.out (by decide)) (fun _ hk => hk.2) (.int .i64 3)) (fun _ hk => hk.2) (.slice Ao11 y202.length co11)) (fun _ hk => hk.2) (.slice Ao10 y205.length co10)) (fun _ h_ => h_.1))) hb); replace BK208 := Aside0.mk (blk_below (g := gb208) (o := .cells #[.int .i64 3, .slice Ao11 y202.length co11, .slice Ao10 y205.length co10] 25 (0, 0)) (by (with_reducible repeat (first | refine blk_drewN ?_ _ | refine blk_drew ?_ | refine blk_alloc ?_ _)); refine blk_put (cs := #[.int .i64 3, .slice Ao11 y202.length co11, .slice none 0 0]) ?_ 2 _ rfl; (with_reducible repeat (first | refine blk_drewN ?_ _ | refine blk_drew ?_ | refine blk_alloc ?_ _)); refine blk_put (cs := #[.int .i64 3, .slice none 0 0, .slice none 0 0]) ?_ 1 _ rfl; (with_reducible repeat (first | refine blk_drewN ?_ _ | refine blk_drew ?_ | refine blk_alloc ?_ _)); refine blk_put (cs := #[.int .i64 0, .slice none 0 0, .slice none 0 0]) ?_ 0 _ rfl; (with_reducible repeat (first | refine blk_drewN ?_ _ | refine blk_drew ?_ | refine blk_alloc ?_ _)); exact BK208.out) hb); replace HB := Aside0.mk (below_step bel hb); (try clear hb); (try clear hb2); (try clear hk); (try clear hi); (try clear ho0)) | ((with_reducible refine gate_dst (N := 20) rfl ?_); (try (refine gate_guard (by rfl) ?_; dsimp only)); refine Kd.R_lit k69 _ 69 ?hg (N := 20) ?hd (xs := ([(⟨0, 1⟩ : S69)] : List (S69))) (inner := [.int .i64 0, .int .i64 1]) (ok := fun _ => True) (okp := fun _ => True) ?hr ?hp (fun _ hk => hk) trivial (Below.refl _ _) (Nat.le_refl _) (by simp) ?_; (case hd => rfl); (case hg => rfl); (case hr => first | (go_simp; done) | (go_simp; rfl)); (case hp => exact (Reps.c2 (show Kd.M k69 _ _ _ (⟨0, 1⟩ : S69) [.int .i64 0, .int .i64 1] from (k69_mkM _ _ _ (⟨0, 1⟩ : S69) )) (Reps.none _ _))); intro v214 w15 ho16 hb hg_ hnew_; clear hg_ hnew_; (first | rw [← Ny213.out] at ho16 | (simp only [Int.reduceToNat] at ho16; rw [← Ny213.out] at ho16)); have HO215 := Aside0.mk (Kd.R_lower (Kd.R_new' ho16 (Kd.R_lt (ownx HO204))) (below_size bel)); replace HO204 := Aside0.mk (Kd.R_elder' (ownx HO204) (Kd.R_base ho16) hb); replace HO207 := Aside0.mk (Kd.R_below (ownx HO207) hb); replace HO211 := Aside0.mk (Kd.R_below (ownx HO211) hb); replace BK208 := Aside0.mk (blk_below (g := gb208) blkz hb); replace HB := Aside0.mk (below_step bel hb); clear hb ho16) | ((with_reducible refine gate_dst (N := 23) rfl ?_); (try (refine gate_guard (by rfl) ?_; dsimp only)); refine Kd.R_lit k71 _ 71 ?hg (N := 23) ?hd (xs := ([(⟨0, 1⟩ : S71), (⟨1, 2⟩ : S71)] : List (S71))) (inner := [.int .i64 0, .int .i64 1, .int .i64 1, .int .i64 2]) (ok := fun _ => True) (okp := fun _ => True) ?hr ?hp (fun _ hk => hk) trivial (Below.refl _ _) (Nat.le_refl _) (by simp) ?_; (case hd => rfl); (case hg => rfl); (case hr => first | (go_simp; done) | (go_simp; rfl)); (case hp => exact (Reps.c2 (show Kd.M k71 _ _ _ (⟨0, 1⟩ : S71) [.int .i64 0, .int .i64 1] from (k71_mkM _ _ _ (⟨0, 1⟩ : S71) )) (Reps.c2 (show Kd.M k71 _ _ _ (⟨1, 2⟩ : S71) [.int .i64 1, .int .i64 2] from (k71_mkM _ _ _ (⟨1, 2⟩ : S71) )) (Reps.none _ _)))); intro v217 w17 ho18 hb hg_ hnew_; clear hg_ hnew_; (first | rw [← Ny216.out] at ho18 | (simp only [Int.reduceToNat] at ho18; rw [← Ny216.out] at ho18)); have HO218 := Aside0.mk (Kd.R_lower (Kd.R_new' ho18 (Kd.R_lt (ownx HO207))) (below_size bel)); replace HO204 := Aside0.mk (Kd.R_below (ownx HO204) hb); replace HO207 := Aside0.mk (Kd.R_elder' (ownx HO207) (Kd.R_base ho18) hb); replace HO211 := Aside0.mk (Kd.R_below (ownx HO211) hb); replace HO215 := Aside0.mk (Kd.R_below (ownx HO215) hb); replace BK208 := Aside0.mk (blk_below (g := gb208) blkz hb); replace HB := Aside0.mk (below_step bel hb); clear hb ho18; obtain ⟨Ao19, co19, eo19⟩ := Kd.R_slice HO218.out; subst eo19; obtain ⟨Ao20, co20, eo20⟩ := Kd.R_slice HO215.out; subst eo20) | ((with_reducible refine gate_callee (f := 17) rfl ?_); refine goesL_ (some 25) rfl rfl Tryd.func17 (by kernel_rfl) rfl #[.agg #[.int .i64 2, .slice Ao20 y213.length co20, .slice Ao19 y216.length co19]] rfl mapz ?_; (with_reducible refine (feed_States.calls k 2 _ _ y213 _ _ y216 t219 t220 _ ?side1 ?side2 ?side3 ?side4 ?sideT A2.out).mono ?_); (case sideT => first | exact HT.out | exact Tab.Tabs.below HT.out bel | (with_reducible repeat (first | exact HT.out | apply Tab.Tabs.alloc | apply Tab.Tabs.drewN | apply Tab.Tabs.drew))); (case side1 => repeat (first | exact (Kd.R_reads' HO215.out).2.2 | (with_reducible refine Kd.C_alloc ?_ _) | (with_reducible refine Kd.C_drewN ?_ _) | (with_reducible refine Kd.C_drew ?_))); (case side2 => exact (Kd.R_reads' HO215.out).2.1); (case side3 => repeat (first | exact (Kd.R_reads' HO218.out).2.2 | (with_reducible refine Kd.C_alloc ?_ _) | (with_reducible refine Kd.C_drewN ?_ _) | (with_reducible refine Kd.C_drew ?_))); (case side4 => exact (Kd.R_reads' HO218.out).2.1); rintro e w21 ⟨rfl, hb⟩; refine ⟨_, rfl, ?_⟩; replace HO204 := Aside0.mk (Kd.R_below (ownx HO204) hb); replace HO207 := Aside0.mk (Kd.R_below (ownx HO207) hb); replace HO211 := Aside0.mk (Kd.R_below (ownx HO211) hb); replace HO215 := Aside0.mk (Kd.R_below (ownx HO215) hb); replace HO218 := Aside0.mk (Kd.R_below (ownx HO218) hb); replace BK208 := Aside0.mk (blk_below (g := gb208) blkz hb); replace HB := Aside0.mk (below_step bel hb); (try clear hb); (try clear hb2); (try clear hk); (try clear hi); obtain ⟨Ao22, co22, eo22⟩ := Kd.R_slice HO211.out; subst eo22))
    go_ret
    exact ⟨ezz, bel⟩
   ·
    rw [if_neg c5] at H
    have c5b0 : ((t209.length : Int) == 2) = false := beq_eq_false_iff_ne.mpr c5
    have c5b1 : ((t209.length : Int) != 2) = true := bne_iff_ne.mpr c5
    obtain rfl := Option.some.inj H
    go_enter Tryd.func12, Tryd.ntmps12
    go_wp2_with (first | ((with_reducible refine gate_dst (N := 9) rfl ?_); (try (refine gate_guard (by rfl) ?_; dsimp only)); refine Kd.R_lit k69 _ 69 ?hg (N := 9) ?hd (xs := ([(⟨0, 1⟩ : S69), (⟨1, 2⟩ : S69), (⟨0, 2⟩ : S69)] : List (S69))) (inner := [.int .i64 0, .int .i64 1, .int .i64 1, .int .i64 2, .int .i64 0, .int .i64 2]) (ok := fun _ => True) (okp := fun _ => True) ?hr ?hp (fun _ hk => hk) trivial (Below.refl _ _) (Nat.le_refl _) (by simp) ?_; (case hd => rfl); (case hg => rfl); (case hr => first | (go_simp; done) | (go_simp; rfl)); (case hp => exact (Reps.c2 (show Kd.M k69 _ _ _ (⟨0, 1⟩ : S69) [.int .i64 0, .int .i64 1] from (k69_mkM _ _ _ (⟨0, 1⟩ : S69) )) (Reps.c2 (show Kd.M k69 _ _ _ (⟨1, 2⟩ : S69) [.int .i64 1, .int .i64 2] from (k69_mkM _ _ _ (⟨1, 2⟩ : S69) )) (Reps.c2 (show Kd.M k69 _ _ _ (⟨0, 2⟩ : S69) [.int .i64 0, .int .i64 2] from (k69_mkM _ _ _ (⟨0, 2⟩ : S69) )) (Reps.none _ _))))); intro v203 w23 ho24 hb hg_ hnew_; clear hg_ hnew_; (first | rw [← Ny202.out] at ho24 | (simp only [Int.reduceToNat] at ho24; rw [← Ny202.out] at ho24)); have HO204 := Aside0.mk (Kd.R_lower ho24 (below_size bel)); replace HB := Aside0.mk (below_step bel hb); clear hb ho24) | ((with_reducible refine gate_dst (N := 11) rfl ?_); (try (refine gate_guard (by rfl) ?_; dsimp only)); refine Kd.R_lit k71 _ 71 ?hg (N := 11) ?hd (xs := ([(⟨0, 1⟩ : S71)] : List (S71))) (inner := [.int .i64 0, .int .i64 1]) (ok := fun _ => True) (okp := fun _ => True) ?hr ?hp (fun _ hk => hk) trivial (Below.refl _ _) (Nat.le_refl _) (by simp) ?_; (case hd => rfl); (case hg => rfl); (case hr => first | (go_simp; done) | (go_simp; rfl)); (case hp => exact (Reps.c2 (show Kd.M k71 _ _ _ (⟨0, 1⟩ : S71) [.int .i64 0, .int .i64 1] from (k71_mkM _ _ _ (⟨0, 1⟩ : S71) )) (Reps.none _ _))); intro v206 w25 ho26 hb hg_ hnew_; clear hg_ hnew_; (first | rw [← Ny205.out] at ho26 | (simp only [Int.reduceToNat] at ho26; rw [← Ny205.out] at ho26)); have HO207 := Aside0.mk (Kd.R_lower ho26 (below_size bel)); replace HO204 := Aside0.mk (Kd.R_below (ownx HO204) hb); replace HB := Aside0.mk (below_step bel hb); clear hb ho26; obtain ⟨Ao27, co27, eo27⟩ := Kd.R_slice HO207.out; subst eo27; obtain ⟨Ao28, co28, eo28⟩ := Kd.R_slice HO204.out; subst eo28) | ((with_reducible refine gate_dst (N := 1) rfl ?_); (try (refine gate_guard (by rfl) ?_; dsimp only)); refine box_event ?hg (N := 1) ?hd (cs := #[.int .i64 0, .slice none 0 0, .slice none 0 0]) (t := 25) ?hr ?_; (case hd => rfl); (case hg => rfl); (case hr => first | (go_simp; done) | (go_simp; rfl)); intro gb208 hg w29 hbox hb; have BK208 := Aside0.mk (hbox); have GW208 := bsz (w := w) hg; have GE208 := GW208; replace HO204 := Aside0.mk (Kd.R_below (ownx HO204) hb); replace HO207 := Aside0.mk (Kd.R_below (ownx HO207) hb); replace HB := Aside0.mk (below_step bel hb); clear hb hbox hg; have hcz30_0 := blkc BK208.out 0 (.int .i64 0) rfl; have hcz30_1 := blkc BK208.out 1 (.slice none 0 0) rfl; have hcz30_2 := blkc BK208.out 2 (.slice none 0 0) rfl; have hfz30_0 := blk_frozen BK208.out 0; have hfz30_1 := blk_frozen BK208.out 1; have hfz30_2 := blk_frozen BK208.out 2) | ((with_reducible refine gate_callee (f := 24) rfl ?_); refine goesL_ (some 15) rfl rfl Tryd.func24 (by kernel_rfl) rfl #[.agg #[.int .i64 3, .slice Ao28 y202.length co28, .slice Ao27 y205.length co27], .int .i64 7, .int .i64 2] rfl mapz ?_; (with_reducible refine (feed_Isolate.calls k 3 _ _ y202 _ _ y205 7 2 t209 t212 _ ?side1 ?side2 ?side3 ?side4 ?sideT A1.out).mono ?_); (case sideT => first | exact HT.out | exact Tab.Tabs.below HT.out bel | (with_reducible repeat (first | exact HT.out | apply Tab.Tabs.alloc | apply Tab.Tabs.drewN | apply Tab.Tabs.drew))); (case side1 => refine (Kd.R_reads' (e := 69) (base := w.heap.size) (ok := fun k_ => True) (n := y202.length) (c := co28) ?_).2.2; exact (by (with_reducible repeat (first | apply Kd.R_alloc | apply Kd.R_drewN | apply Kd.R_drew)); exact (Kd.R_mono (Kd.R_far (p := ⟨gb208, 2, none⟩) (Kd.R_far (p := ⟨gb208, 1, none⟩) (Kd.R_far (p := ⟨gb208, 0, none⟩) (Kd.R_types HO204.out BK208.out (by decide)) (fun _ hk => hk.2) (.int .i64 3)) (fun _ hk => hk.2) (.slice Ao28 y202.length co28)) (fun _ hk => hk.2) (.slice Ao27 y205.length co27)) (fun _ h_ => h_.1)))); (case side2 => exact (Kd.R_reads' HO204.out).2.1); (case side3 => refine (Kd.R_reads' (e := 71) (base := w.heap.size) (ok := fun k_ => True) (n := y205.length) (c := co27) ?_).2.2; exact (by (with_reducible repeat (first | apply Kd.R_alloc | apply Kd.R_drewN | apply Kd.R_drew)); exact (Kd.R_mono (Kd.R_far (p := ⟨gb208, 2, none⟩) (Kd.R_far (p := ⟨gb208, 1, none⟩) (Kd.R_far (p := ⟨gb208, 0, none⟩) (Kd.R_types HO207.out BK208.out (by decide)) (fun _ hk => hk.2) (.int .i64 3)) (fun _ hk => hk.2) (.slice Ao28 y202.length co28)) (fun _ hk => hk.2) (.slice Ao27 y205.length co27)) (fun _ h_ => h_.1)))); (case side4 => exact (Kd.R_reads' HO207.out).2.1); rintro e w31 ⟨v210, rfl, ho0, hb⟩; refine ⟨_, rfl, ?_⟩; have HO211 := Aside0.mk (Kd.R_lower ho0 (below_size bel)); replace HO204 := Aside0.mk (Kd.R_below (by (with_reducible repeat (first | apply Kd.R_alloc | apply Kd.R_drewN | apply Kd.R_drew)); exact (Kd.R_mono (Kd.R_far (p := ⟨gb208, 2, none⟩) (Kd.R_far (p := ⟨gb208, 1, none⟩) (Kd.R_far (p := ⟨gb208, 0, none⟩) (Kd.R_types HO204.out BK208.out (by decide)) (fun _ hk => hk.2) (.int .i64 3)) (fun _ hk => hk.2) (.slice Ao28 y202.length co28)) (fun _ hk => hk.2) (.slice Ao27 y205.length co27)) (fun _ h_ => h_.1))) hb); replace HO207 := Aside0.mk (Kd.R_below (by (with_reducible repeat (first | apply Kd.R_alloc | apply Kd.R_drewN | apply Kd.R_drew)); exact (Kd.R_mono (Kd.R_far (p := ⟨gb208, 2, none⟩) (Kd.R_far (p := ⟨gb208, 1, none⟩) (Kd.R_far (p := ⟨gb208, 0, none⟩) (Kd.R_types HO207.out BK208.out (by decide)) (fun _ hk => hk.2) (.int .i64 3)) (fun _ hk => hk.2) (.slice Ao28 y202.length co28)) (fun _ hk => hk.2) (.slice Ao27 y205.length co27)) (fun _ h_ => h_.1))) hb); replace BK208 := Aside0.mk (blk_below (g := gb208) (o := .cells #[.int .i64 3, .slice Ao28 y202.length co28, .slice Ao27 y205.length co27] 25 (0, 0)) (by (with_reducible repeat (first | refine blk_drewN ?_ _ | refine blk_drew ?_ | refine blk_alloc ?_ _)); refine blk_put (cs := #[.int .i64 3, .slice Ao28 y202.length co28, .slice none 0 0]) ?_ 2 _ rfl; (with_reducible repeat (first | refine blk_drewN ?_ _ | refine blk_drew ?_ | refine blk_alloc ?_ _)); refine blk_put (cs := #[.int .i64 3, .slice none 0 0, .slice none 0 0]) ?_ 1 _ rfl; (with_reducible repeat (first | refine blk_drewN ?_ _ | refine blk_drew ?_ | refine blk_alloc ?_ _)); refine blk_put (cs := #[.int .i64 0, .slice none 0 0, .slice none 0 0]) ?_ 0 _ rfl; (with_reducible repeat (first | refine blk_drewN ?_ _ | refine blk_drew ?_ | refine blk_alloc ?_ _)); exact BK208.out) hb); replace HB := Aside0.mk (below_step bel hb); (try clear hb); (try clear hb2); (try clear hk); (try clear hi); (try clear ho0)) | ((with_reducible refine gate_dst (N := 20) rfl ?_); (try (refine gate_guard (by rfl) ?_; dsimp only)); refine Kd.R_lit k69 _ 69 ?hg (N := 20) ?hd (xs := ([(⟨0, 1⟩ : S69)] : List (S69))) (inner := [.int .i64 0, .int .i64 1]) (ok := fun _ => True) (okp := fun _ => True) ?hr ?hp (fun _ hk => hk) trivial (Below.refl _ _) (Nat.le_refl _) (by simp) ?_; (case hd => rfl); (case hg => rfl); (case hr => first | (go_simp; done) | (go_simp; rfl)); (case hp => exact (Reps.c2 (show Kd.M k69 _ _ _ (⟨0, 1⟩ : S69) [.int .i64 0, .int .i64 1] from (k69_mkM _ _ _ (⟨0, 1⟩ : S69) )) (Reps.none _ _))); intro v214 w32 ho33 hb hg_ hnew_; clear hg_ hnew_; (first | rw [← Ny213.out] at ho33 | (simp only [Int.reduceToNat] at ho33; rw [← Ny213.out] at ho33)); have HO215 := Aside0.mk (Kd.R_lower (Kd.R_new' ho33 (Kd.R_lt (ownx HO204))) (below_size bel)); replace HO204 := Aside0.mk (Kd.R_elder' (ownx HO204) (Kd.R_base ho33) hb); replace HO207 := Aside0.mk (Kd.R_below (ownx HO207) hb); replace HO211 := Aside0.mk (Kd.R_below (ownx HO211) hb); replace BK208 := Aside0.mk (blk_below (g := gb208) blkz hb); replace HB := Aside0.mk (below_step bel hb); clear hb ho33) | ((with_reducible refine gate_dst (N := 23) rfl ?_); (try (refine gate_guard (by rfl) ?_; dsimp only)); refine Kd.R_lit k71 _ 71 ?hg (N := 23) ?hd (xs := ([(⟨0, 1⟩ : S71), (⟨1, 2⟩ : S71)] : List (S71))) (inner := [.int .i64 0, .int .i64 1, .int .i64 1, .int .i64 2]) (ok := fun _ => True) (okp := fun _ => True) ?hr ?hp (fun _ hk => hk) trivial (Below.refl _ _) (Nat.le_refl _) (by simp) ?_; (case hd => rfl); (case hg => rfl); (case hr => first | (go_simp; done) | (go_simp; rfl)); (case hp => exact (Reps.c2 (show Kd.M k71 _ _ _ (⟨0, 1⟩ : S71) [.int .i64 0, .int .i64 1] from (k71_mkM _ _ _ (⟨0, 1⟩ : S71) )) (Reps.c2 (show Kd.M k71 _ _ _ (⟨1, 2⟩ : S71) [.int .i64 1, .int .i64 2] from (k71_mkM _ _ _ (⟨1, 2⟩ : S71) )) (Reps.none _ _)))); intro v217 w34 ho35 hb hg_ hnew_; clear hg_ hnew_; (first | rw [← Ny216.out] at ho35 | (simp only [Int.reduceToNat] at ho35; rw [← Ny216.out] at ho35)); have HO218 := Aside0.mk (Kd.R_lower (Kd.R_new' ho35 (Kd.R_lt (ownx HO207))) (below_size bel)); replace HO204 := Aside0.mk (Kd.R_below (ownx HO204) hb); replace HO207 := Aside0.mk (Kd.R_elder' (ownx HO207) (Kd.R_base ho35) hb); replace HO211 := Aside0.mk (Kd.R_below (ownx HO211) hb); replace HO215 := Aside0.mk (Kd.R_below (ownx HO215) hb); replace BK208 := Aside0.mk (blk_below (g := gb208) blkz hb); replace HB := Aside0.mk (below_step bel hb); clear hb ho35; obtain ⟨Ao36, co36, eo36⟩ := Kd.R_slice HO218.out; subst eo36; obtain ⟨Ao37, co37, eo37⟩ := Kd.R_slice HO215.out; subst eo37) | ((with_reducible refine gate_callee (f := 17) rfl ?_); refine goesL_ (some 25) rfl rfl Tryd.func17 (by kernel_rfl) rfl #[.agg #[.int .i64 2, .slice Ao37 y213.length co37, .slice Ao36 y216.length co36]] rfl mapz ?_; (with_reducible refine (feed_States.calls k 2 _ _ y213 _ _ y216 t219 t220 _ ?side1 ?side2 ?side3 ?side4 ?sideT A2.out).mono ?_); (case sideT => first | exact HT.out | exact Tab.Tabs.below HT.out bel | (with_reducible repeat (first | exact HT.out | apply Tab.Tabs.alloc | apply Tab.Tabs.drewN | apply Tab.Tabs.drew))); (case side1 => repeat (first | exact (Kd.R_reads' HO215.out).2.2 | (with_reducible refine Kd.C_alloc ?_ _) | (with_reducible refine Kd.C_drewN ?_ _) | (with_reducible refine Kd.C_drew ?_))); (case side2 => exact (Kd.R_reads' HO215.out).2.1); (case side3 => repeat (first | exact (Kd.R_reads' HO218.out).2.2 | (with_reducible refine Kd.C_alloc ?_ _) | (with_reducible refine Kd.C_drewN ?_ _) | (with_reducible refine Kd.C_drew ?_))); (case side4 => exact (Kd.R_reads' HO218.out).2.1); rintro e w38 ⟨rfl, hb⟩; refine ⟨_, rfl, ?_⟩; replace HO204 := Aside0.mk (Kd.R_below (ownx HO204) hb); replace HO207 := Aside0.mk (Kd.R_below (ownx HO207) hb); replace HO211 := Aside0.mk (Kd.R_below (ownx HO211) hb); replace HO215 := Aside0.mk (Kd.R_below (ownx HO215) hb); replace HO218 := Aside0.mk (Kd.R_below (ownx HO218) hb); replace BK208 := Aside0.mk (blk_below (g := gb208) blkz hb); replace HB := Aside0.mk (below_step bel hb); (try clear hb); (try clear hb2); (try clear hk); (try clear hi); obtain ⟨Ao39, co39, eo39⟩ := Kd.R_slice HO211.out; subst eo39))
    go_ret
    exact ⟨ezz, bel⟩
  ·
   rw [if_neg c4] at H
   have c4b0 : (t220 == 0) = false := beq_eq_false_iff_ne.mpr c4
   have c4b1 : (t220 != 0) = true := bne_iff_ne.mpr c4
   obtain rfl := Option.some.inj H
   go_enter Tryd.func12, Tryd.ntmps12
   go_wp2_with (first | ((with_reducible refine gate_dst (N := 9) rfl ?_); (try (refine gate_guard (by rfl) ?_; dsimp only)); refine Kd.R_lit k69 _ 69 ?hg (N := 9) ?hd (xs := ([(⟨0, 1⟩ : S69), (⟨1, 2⟩ : S69), (⟨0, 2⟩ : S69)] : List (S69))) (inner := [.int .i64 0, .int .i64 1, .int .i64 1, .int .i64 2, .int .i64 0, .int .i64 2]) (ok := fun _ => True) (okp := fun _ => True) ?hr ?hp (fun _ hk => hk) trivial (Below.refl _ _) (Nat.le_refl _) (by simp) ?_; (case hd => rfl); (case hg => rfl); (case hr => first | (go_simp; done) | (go_simp; rfl)); (case hp => exact (Reps.c2 (show Kd.M k69 _ _ _ (⟨0, 1⟩ : S69) [.int .i64 0, .int .i64 1] from (k69_mkM _ _ _ (⟨0, 1⟩ : S69) )) (Reps.c2 (show Kd.M k69 _ _ _ (⟨1, 2⟩ : S69) [.int .i64 1, .int .i64 2] from (k69_mkM _ _ _ (⟨1, 2⟩ : S69) )) (Reps.c2 (show Kd.M k69 _ _ _ (⟨0, 2⟩ : S69) [.int .i64 0, .int .i64 2] from (k69_mkM _ _ _ (⟨0, 2⟩ : S69) )) (Reps.none _ _))))); intro v203 w40 ho41 hb hg_ hnew_; clear hg_ hnew_; (first | rw [← Ny202.out] at ho41 | (simp only [Int.reduceToNat] at ho41; rw [← Ny202.out] at ho41)); have HO204 := Aside0.mk (Kd.R_lower ho41 (below_size bel)); replace HB := Aside0.mk (below_step bel hb); clear hb ho41) | ((with_reducible refine gate_dst (N := 11) rfl ?_); (try (refine gate_guard (by rfl) ?_; dsimp only)); refine Kd.R_lit k71 _ 71 ?hg (N := 11) ?hd (xs := ([(⟨0, 1⟩ : S71)] : List (S71))) (inner := [.int .i64 0, .int .i64 1]) (ok := fun _ => True) (okp := fun _ => True) ?hr ?hp (fun _ hk => hk) trivial (Below.refl _ _) (Nat.le_refl _) (by simp) ?_; (case hd => rfl); (case hg => rfl); (case hr => first | (go_simp; done) | (go_simp; rfl)); (case hp => exact (Reps.c2 (show Kd.M k71 _ _ _ (⟨0, 1⟩ : S71) [.int .i64 0, .int .i64 1] from (k71_mkM _ _ _ (⟨0, 1⟩ : S71) )) (Reps.none _ _))); intro v206 w42 ho43 hb hg_ hnew_; clear hg_ hnew_; (first | rw [← Ny205.out] at ho43 | (simp only [Int.reduceToNat] at ho43; rw [← Ny205.out] at ho43)); have HO207 := Aside0.mk (Kd.R_lower ho43 (below_size bel)); replace HO204 := Aside0.mk (Kd.R_below (ownx HO204) hb); replace HB := Aside0.mk (below_step bel hb); clear hb ho43; obtain ⟨Ao44, co44, eo44⟩ := Kd.R_slice HO207.out; subst eo44; obtain ⟨Ao45, co45, eo45⟩ := Kd.R_slice HO204.out; subst eo45) | ((with_reducible refine gate_dst (N := 1) rfl ?_); (try (refine gate_guard (by rfl) ?_; dsimp only)); refine box_event ?hg (N := 1) ?hd (cs := #[.int .i64 0, .slice none 0 0, .slice none 0 0]) (t := 25) ?hr ?_; (case hd => rfl); (case hg => rfl); (case hr => first | (go_simp; done) | (go_simp; rfl)); intro gb208 hg w46 hbox hb; have BK208 := Aside0.mk (hbox); have GW208 := bsz (w := w) hg; have GE208 := GW208; replace HO204 := Aside0.mk (Kd.R_below (ownx HO204) hb); replace HO207 := Aside0.mk (Kd.R_below (ownx HO207) hb); replace HB := Aside0.mk (below_step bel hb); clear hb hbox hg; have hcz47_0 := blkc BK208.out 0 (.int .i64 0) rfl; have hcz47_1 := blkc BK208.out 1 (.slice none 0 0) rfl; have hcz47_2 := blkc BK208.out 2 (.slice none 0 0) rfl; have hfz47_0 := blk_frozen BK208.out 0; have hfz47_1 := blk_frozen BK208.out 1; have hfz47_2 := blk_frozen BK208.out 2) | ((with_reducible refine gate_callee (f := 24) rfl ?_); refine goesL_ (some 15) rfl rfl Tryd.func24 (by kernel_rfl) rfl #[.agg #[.int .i64 3, .slice Ao45 y202.length co45, .slice Ao44 y205.length co44], .int .i64 7, .int .i64 2] rfl mapz ?_; (with_reducible refine (feed_Isolate.calls k 3 _ _ y202 _ _ y205 7 2 t209 t212 _ ?side1 ?side2 ?side3 ?side4 ?sideT A1.out).mono ?_); (case sideT => first | exact HT.out | exact Tab.Tabs.below HT.out bel | (with_reducible repeat (first | exact HT.out | apply Tab.Tabs.alloc | apply Tab.Tabs.drewN | apply Tab.Tabs.drew))); (case side1 => refine (Kd.R_reads' (e := 69) (base := w.heap.size) (ok := fun k_ => True) (n := y202.length) (c := co45) ?_).2.2; exact (by (with_reducible repeat (first | apply Kd.R_alloc | apply Kd.R_drewN | apply Kd.R_drew)); exact (Kd.R_mono (Kd.R_far (p := ⟨gb208, 2, none⟩) (Kd.R_far (p := ⟨gb208, 1, none⟩) (Kd.R_far (p := ⟨gb208, 0, none⟩) (Kd.R_types HO204.out BK208.out (by decide)) (fun _ hk => hk.2) (.int .i64 3)) (fun _ hk => hk.2) (.slice Ao45 y202.length co45)) (fun _ hk => hk.2) (.slice Ao44 y205.length co44)) (fun _ h_ => h_.1)))); (case side2 => exact (Kd.R_reads' HO204.out).2.1); (case side3 => refine (Kd.R_reads' (e := 71) (base := w.heap.size) (ok := fun k_ => True) (n := y205.length) (c := co44) ?_).2.2; exact (by (with_reducible repeat (first | apply Kd.R_alloc | apply Kd.R_drewN | apply Kd.R_drew)); exact (Kd.R_mono (Kd.R_far (p := ⟨gb208, 2, none⟩) (Kd.R_far (p := ⟨gb208, 1, none⟩) (Kd.R_far (p := ⟨gb208, 0, none⟩) (Kd.R_types HO207.out BK208.out (by decide)) (fun _ hk => hk.2) (.int .i64 3)) (fun _ hk => hk.2) (.slice Ao45 y202.length co45)) (fun _ hk => hk.2) (.slice Ao44 y205.length co44)) (fun _ h_ => h_.1)))); (case side4 => exact (Kd.R_reads' HO207.out).2.1); rintro e w48 ⟨v210, rfl, ho0, hb⟩; refine ⟨_, rfl, ?_⟩; have HO211 := Aside0.mk (Kd.R_lower ho0 (below_size bel)); replace HO204 := Aside0.mk (Kd.R_below (by (with_reducible repeat (first | apply Kd.R_alloc | apply Kd.R_drewN | apply Kd.R_drew)); exact (Kd.R_mono (Kd.R_far (p := ⟨gb208, 2, none⟩) (Kd.R_far (p := ⟨gb208, 1, none⟩) (Kd.R_far (p := ⟨gb208, 0, none⟩) (Kd.R_types HO204.out BK208.out (by decide)) (fun _ hk => hk.2) (.int .i64 3)) (fun _ hk => hk.2) (.slice Ao45 y202.length co45)) (fun _ hk => hk.2) (.slice Ao44 y205.length co44)) (fun _ h_ => h_.1))) hb); replace HO207 := Aside0.mk (Kd.R_below (by (with_reducible repeat (first | apply Kd.R_alloc | apply Kd.R_drewN | apply Kd.R_drew)); exact (Kd.R_mono (Kd.R_far (p := ⟨gb208, 2, none⟩) (Kd.R_far (p := ⟨gb208, 1, none⟩) (Kd.R_far (p := ⟨gb208, 0, none⟩) (Kd.R_types HO207.out BK208.out (by decide)) (fun _ hk => hk.2) (.int .i64 3)) (fun _ hk => hk.2) (.slice Ao45 y202.length co45)) (fun _ hk => hk.2) (.slice Ao44 y205.length co44)) (fun _ h_ => h_.1))) hb); replace BK208 := Aside0.mk (blk_below (g := gb208) (o := .cells #[.int .i64 3, .slice Ao45 y202.length co45, .slice Ao44 y205.length co44] 25 (0, 0)) (by (with_reducible repeat (first | refine blk_drewN ?_ _ | refine blk_drew ?_ | refine blk_alloc ?_ _)); refine blk_put (cs := #[.int .i64 3, .slice Ao45 y202.length co45, .slice none 0 0]) ?_ 2 _ rfl; (with_reducible repeat (first | refine blk_drewN ?_ _ | refine blk_drew ?_ | refine blk_alloc ?_ _)); refine blk_put (cs := #[.int .i64 3, .slice none 0 0, .slice none 0 0]) ?_ 1 _ rfl; (with_reducible repeat (first | refine blk_drewN ?_ _ | refine blk_drew ?_ | refine blk_alloc ?_ _)); refine blk_put (cs := #[.int .i64 0, .slice none 0 0, .slice none 0 0]) ?_ 0 _ rfl; (with_reducible repeat (first | refine blk_drewN ?_ _ | refine blk_drew ?_ | refine blk_alloc ?_ _)); exact BK208.out) hb); replace HB := Aside0.mk (below_step bel hb); (try clear hb); (try clear hb2); (try clear hk); (try clear hi); (try clear ho0)) | ((with_reducible refine gate_dst (N := 20) rfl ?_); (try (refine gate_guard (by rfl) ?_; dsimp only)); refine Kd.R_lit k69 _ 69 ?hg (N := 20) ?hd (xs := ([(⟨0, 1⟩ : S69)] : List (S69))) (inner := [.int .i64 0, .int .i64 1]) (ok := fun _ => True) (okp := fun _ => True) ?hr ?hp (fun _ hk => hk) trivial (Below.refl _ _) (Nat.le_refl _) (by simp) ?_; (case hd => rfl); (case hg => rfl); (case hr => first | (go_simp; done) | (go_simp; rfl)); (case hp => exact (Reps.c2 (show Kd.M k69 _ _ _ (⟨0, 1⟩ : S69) [.int .i64 0, .int .i64 1] from (k69_mkM _ _ _ (⟨0, 1⟩ : S69) )) (Reps.none _ _))); intro v214 w49 ho50 hb hg_ hnew_; clear hg_ hnew_; (first | rw [← Ny213.out] at ho50 | (simp only [Int.reduceToNat] at ho50; rw [← Ny213.out] at ho50)); have HO215 := Aside0.mk (Kd.R_lower (Kd.R_new' ho50 (Kd.R_lt (ownx HO204))) (below_size bel)); replace HO204 := Aside0.mk (Kd.R_elder' (ownx HO204) (Kd.R_base ho50) hb); replace HO207 := Aside0.mk (Kd.R_below (ownx HO207) hb); replace HO211 := Aside0.mk (Kd.R_below (ownx HO211) hb); replace BK208 := Aside0.mk (blk_below (g := gb208) blkz hb); replace HB := Aside0.mk (below_step bel hb); clear hb ho50) | ((with_reducible refine gate_dst (N := 23) rfl ?_); (try (refine gate_guard (by rfl) ?_; dsimp only)); refine Kd.R_lit k71 _ 71 ?hg (N := 23) ?hd (xs := ([(⟨0, 1⟩ : S71), (⟨1, 2⟩ : S71)] : List (S71))) (inner := [.int .i64 0, .int .i64 1, .int .i64 1, .int .i64 2]) (ok := fun _ => True) (okp := fun _ => True) ?hr ?hp (fun _ hk => hk) trivial (Below.refl _ _) (Nat.le_refl _) (by simp) ?_; (case hd => rfl); (case hg => rfl); (case hr => first | (go_simp; done) | (go_simp; rfl)); (case hp => exact (Reps.c2 (show Kd.M k71 _ _ _ (⟨0, 1⟩ : S71) [.int .i64 0, .int .i64 1] from (k71_mkM _ _ _ (⟨0, 1⟩ : S71) )) (Reps.c2 (show Kd.M k71 _ _ _ (⟨1, 2⟩ : S71) [.int .i64 1, .int .i64 2] from (k71_mkM _ _ _ (⟨1, 2⟩ : S71) )) (Reps.none _ _)))); intro v217 w51 ho52 hb hg_ hnew_; clear hg_ hnew_; (first | rw [← Ny216.out] at ho52 | (simp only [Int.reduceToNat] at ho52; rw [← Ny216.out] at ho52)); have HO218 := Aside0.mk (Kd.R_lower (Kd.R_new' ho52 (Kd.R_lt (ownx HO207))) (below_size bel)); replace HO204 := Aside0.mk (Kd.R_below (ownx HO204) hb); replace HO207 := Aside0.mk (Kd.R_elder' (ownx HO207) (Kd.R_base ho52) hb); replace HO211 := Aside0.mk (Kd.R_below (ownx HO211) hb); replace HO215 := Aside0.mk (Kd.R_below (ownx HO215) hb); replace BK208 := Aside0.mk (blk_below (g := gb208) blkz hb); replace HB := Aside0.mk (below_step bel hb); clear hb ho52; obtain ⟨Ao53, co53, eo53⟩ := Kd.R_slice HO218.out; subst eo53; obtain ⟨Ao54, co54, eo54⟩ := Kd.R_slice HO215.out; subst eo54) | ((with_reducible refine gate_callee (f := 17) rfl ?_); refine goesL_ (some 25) rfl rfl Tryd.func17 (by kernel_rfl) rfl #[.agg #[.int .i64 2, .slice Ao54 y213.length co54, .slice Ao53 y216.length co53]] rfl mapz ?_; (with_reducible refine (feed_States.calls k 2 _ _ y213 _ _ y216 t219 t220 _ ?side1 ?side2 ?side3 ?side4 ?sideT A2.out).mono ?_); (case sideT => first | exact HT.out | exact Tab.Tabs.below HT.out bel | (with_reducible repeat (first | exact HT.out | apply Tab.Tabs.alloc | apply Tab.Tabs.drewN | apply Tab.Tabs.drew))); (case side1 => repeat (first | exact (Kd.R_reads' HO215.out).2.2 | (with_reducible refine Kd.C_alloc ?_ _) | (with_reducible refine Kd.C_drewN ?_ _) | (with_reducible refine Kd.C_drew ?_))); (case side2 => exact (Kd.R_reads' HO215.out).2.1); (case side3 => repeat (first | exact (Kd.R_reads' HO218.out).2.2 | (with_reducible refine Kd.C_alloc ?_ _) | (with_reducible refine Kd.C_drewN ?_ _) | (with_reducible refine Kd.C_drew ?_))); (case side4 => exact (Kd.R_reads' HO218.out).2.1); rintro e w55 ⟨rfl, hb⟩; refine ⟨_, rfl, ?_⟩; replace HO204 := Aside0.mk (Kd.R_below (ownx HO204) hb); replace HO207 := Aside0.mk (Kd.R_below (ownx HO207) hb); replace HO211 := Aside0.mk (Kd.R_below (ownx HO211) hb); replace HO215 := Aside0.mk (Kd.R_below (ownx HO215) hb); replace HO218 := Aside0.mk (Kd.R_below (ownx HO218) hb); replace BK208 := Aside0.mk (blk_below (g := gb208) blkz hb); replace HB := Aside0.mk (below_step bel hb); (try clear hb); (try clear hb2); (try clear hk); (try clear hi)))
   go_ret
   exact ⟨ezz, bel⟩
 ·
  rw [if_neg c3] at H
  have c3b0 : (t212 == 0) = false := beq_eq_false_iff_ne.mpr c3
  have c3b1 : (t212 != 0) = true := bne_iff_ne.mpr c3
  obtain rfl := Option.some.inj H
  go_enter Tryd.func12, Tryd.ntmps12
  go_wp2_with (first | ((with_reducible refine gate_dst (N := 9) rfl ?_); (try (refine gate_guard (by rfl) ?_; dsimp only)); refine Kd.R_lit k69 _ 69 ?hg (N := 9) ?hd (xs := ([(⟨0, 1⟩ : S69), (⟨1, 2⟩ : S69), (⟨0, 2⟩ : S69)] : List (S69))) (inner := [.int .i64 0, .int .i64 1, .int .i64 1, .int .i64 2, .int .i64 0, .int .i64 2]) (ok := fun _ => True) (okp := fun _ => True) ?hr ?hp (fun _ hk => hk) trivial (Below.refl _ _) (Nat.le_refl _) (by simp) ?_; (case hd => rfl); (case hg => rfl); (case hr => first | (go_simp; done) | (go_simp; rfl)); (case hp => exact (Reps.c2 (show Kd.M k69 _ _ _ (⟨0, 1⟩ : S69) [.int .i64 0, .int .i64 1] from (k69_mkM _ _ _ (⟨0, 1⟩ : S69) )) (Reps.c2 (show Kd.M k69 _ _ _ (⟨1, 2⟩ : S69) [.int .i64 1, .int .i64 2] from (k69_mkM _ _ _ (⟨1, 2⟩ : S69) )) (Reps.c2 (show Kd.M k69 _ _ _ (⟨0, 2⟩ : S69) [.int .i64 0, .int .i64 2] from (k69_mkM _ _ _ (⟨0, 2⟩ : S69) )) (Reps.none _ _))))); intro v203 w56 ho57 hb hg_ hnew_; clear hg_ hnew_; (first | rw [← Ny202.out] at ho57 | (simp only [Int.reduceToNat] at ho57; rw [← Ny202.out] at ho57)); have HO204 := Aside0.mk (Kd.R_lower ho57 (below_size bel)); replace HB := Aside0.mk (below_step bel hb); clear hb ho57) | ((with_reducible refine gate_dst (N := 11) rfl ?_); (try (refine gate_guard (by rfl) ?_; dsimp only)); refine Kd.R_lit k71 _ 71 ?hg (N := 11) ?hd (xs := ([(⟨0, 1⟩ : S71)] : List (S71))) (inner := [.int .i64 0, .int .i64 1]) (ok := fun _ => True) (okp := fun _ => True) ?hr ?hp (fun _ hk => hk) trivial (Below.refl _ _) (Nat.le_refl _) (by simp) ?_; (case hd => rfl); (case hg => rfl); (case hr => first | (go_simp; done) | (go_simp; rfl)); (case hp => exact (Reps.c2 (show Kd.M k71 _ _ _ (⟨0, 1⟩ : S71) [.int .i64 0, .int .i64 1] from (k71_mkM _ _ _ (⟨0, 1⟩ : S71) )) (Reps.none _ _))); intro v206 w58 ho59 hb hg_ hnew_; clear hg_ hnew_; (first | rw [← Ny205.out] at ho59 | (simp only [Int.reduceToNat] at ho59; rw [← Ny205.out] at ho59)); have HO207 := Aside0.mk (Kd.R_lower ho59 (below_size bel)); replace HO204 := Aside0.mk (Kd.R_below (ownx HO204) hb); replace HB := Aside0.mk (below_step bel hb); clear hb ho59; obtain ⟨Ao60, co60, eo60⟩ := Kd.R_slice HO207.out; subst eo60; obtain ⟨Ao61, co61, eo61⟩ := Kd.R_slice HO204.out; subst eo61) | ((with_reducible refine gate_dst (N := 1) rfl ?_); (try (refine gate_guard (by rfl) ?_; dsimp only)); refine box_event ?hg (N := 1) ?hd (cs := #[.int .i64 0, .slice none 0 0, .slice none 0 0]) (t := 25) ?hr ?_; (case hd => rfl); (case hg => rfl); (case hr => first | (go_simp; done) | (go_simp; rfl)); intro gb208 hg w62 hbox hb; have BK208 := Aside0.mk (hbox); have GW208 := bsz (w := w) hg; have GE208 := GW208; replace HO204 := Aside0.mk (Kd.R_below (ownx HO204) hb); replace HO207 := Aside0.mk (Kd.R_below (ownx HO207) hb); replace HB := Aside0.mk (below_step bel hb); clear hb hbox hg; have hcz63_0 := blkc BK208.out 0 (.int .i64 0) rfl; have hcz63_1 := blkc BK208.out 1 (.slice none 0 0) rfl; have hcz63_2 := blkc BK208.out 2 (.slice none 0 0) rfl; have hfz63_0 := blk_frozen BK208.out 0; have hfz63_1 := blk_frozen BK208.out 1; have hfz63_2 := blk_frozen BK208.out 2) | ((with_reducible refine gate_callee (f := 24) rfl ?_); refine goesL_ (some 15) rfl rfl Tryd.func24 (by kernel_rfl) rfl #[.agg #[.int .i64 3, .slice Ao61 y202.length co61, .slice Ao60 y205.length co60], .int .i64 7, .int .i64 2] rfl mapz ?_; (with_reducible refine (feed_Isolate.calls k 3 _ _ y202 _ _ y205 7 2 t209 t212 _ ?side1 ?side2 ?side3 ?side4 ?sideT A1.out).mono ?_); (case sideT => first | exact HT.out | exact Tab.Tabs.below HT.out bel | (with_reducible repeat (first | exact HT.out | apply Tab.Tabs.alloc | apply Tab.Tabs.drewN | apply Tab.Tabs.drew))); (case side1 => refine (Kd.R_reads' (e := 69) (base := w.heap.size) (ok := fun k_ => True) (n := y202.length) (c := co61) ?_).2.2; exact (by (with_reducible repeat (first | apply Kd.R_alloc | apply Kd.R_drewN | apply Kd.R_drew)); exact (Kd.R_mono (Kd.R_far (p := ⟨gb208, 2, none⟩) (Kd.R_far (p := ⟨gb208, 1, none⟩) (Kd.R_far (p := ⟨gb208, 0, none⟩) (Kd.R_types HO204.out BK208.out (by decide)) (fun _ hk => hk.2) (.int .i64 3)) (fun _ hk => hk.2) (.slice Ao61 y202.length co61)) (fun _ hk => hk.2) (.slice Ao60 y205.length co60)) (fun _ h_ => h_.1)))); (case side2 => exact (Kd.R_reads' HO204.out).2.1); (case side3 => refine (Kd.R_reads' (e := 71) (base := w.heap.size) (ok := fun k_ => True) (n := y205.length) (c := co60) ?_).2.2; exact (by (with_reducible repeat (first | apply Kd.R_alloc | apply Kd.R_drewN | apply Kd.R_drew)); exact (Kd.R_mono (Kd.R_far (p := ⟨gb208, 2, none⟩) (Kd.R_far (p := ⟨gb208, 1, none⟩) (Kd.R_far (p := ⟨gb208, 0, none⟩) (Kd.R_types HO207.out BK208.out (by decide)) (fun _ hk => hk.2) (.int .i64 3)) (fun _ hk => hk.2) (.slice Ao61 y202.length co61)) (fun _ hk => hk.2) (.slice Ao60 y205.length co60)) (fun _ h_ => h_.1)))); (case side4 => exact (Kd.R_reads' HO207.out).2.1); rintro e w64 ⟨v210, rfl, ho0, hb⟩; refine ⟨_, rfl, ?_⟩; have HO211 := Aside0.mk (Kd.R_lower ho0 (below_size bel)); replace HO204 := Aside0.mk (Kd.R_below (by (with_reducible repeat (first | apply Kd.R_alloc | apply Kd.R_drewN | apply Kd.R_drew)); exact (Kd.R_mono (Kd.R_far (p := ⟨gb208, 2, none⟩) (Kd.R_far (p := ⟨gb208, 1, none⟩) (Kd.R_far (p := ⟨gb208, 0, none⟩) (Kd.R_types HO204.out BK208.out (by decide)) (fun _ hk => hk.2) (.int .i64 3)) (fun _ hk => hk.2) (.slice Ao61 y202.length co61)) (fun _ hk => hk.2) (.slice Ao60 y205.length co60)) (fun _ h_ => h_.1))) hb); replace HO207 := Aside0.mk (Kd.R_below (by (with_reducible repeat (first | apply Kd.R_alloc | apply Kd.R_drewN | apply Kd.R_drew)); exact (Kd.R_mono (Kd.R_far (p := ⟨gb208, 2, none⟩) (Kd.R_far (p := ⟨gb208, 1, none⟩) (Kd.R_far (p := ⟨gb208, 0, none⟩) (Kd.R_types HO207.out BK208.out (by decide)) (fun _ hk => hk.2) (.int .i64 3)) (fun _ hk => hk.2) (.slice Ao61 y202.length co61)) (fun _ hk => hk.2) (.slice Ao60 y205.length co60)) (fun _ h_ => h_.1))) hb); replace BK208 := Aside0.mk (blk_below (g := gb208) (o := .cells #[.int .i64 3, .slice Ao61 y202.length co61, .slice Ao60 y205.length co60] 25 (0, 0)) (by (with_reducible repeat (first | refine blk_drewN ?_ _ | refine blk_drew ?_ | refine blk_alloc ?_ _)); refine blk_put (cs := #[.int .i64 3, .slice Ao61 y202.length co61, .slice none 0 0]) ?_ 2 _ rfl; (with_reducible repeat (first | refine blk_drewN ?_ _ | refine blk_drew ?_ | refine blk_alloc ?_ _)); refine blk_put (cs := #[.int .i64 3, .slice none 0 0, .slice none 0 0]) ?_ 1 _ rfl; (with_reducible repeat (first | refine blk_drewN ?_ _ | refine blk_drew ?_ | refine blk_alloc ?_ _)); refine blk_put (cs := #[.int .i64 0, .slice none 0 0, .slice none 0 0]) ?_ 0 _ rfl; (with_reducible repeat (first | refine blk_drewN ?_ _ | refine blk_drew ?_ | refine blk_alloc ?_ _)); exact BK208.out) hb); replace HB := Aside0.mk (below_step bel hb); (try clear hb); (try clear hb2); (try clear hk); (try clear hi); (try clear ho0)) | ((with_reducible refine gate_dst (N := 20) rfl ?_); (try (refine gate_guard (by rfl) ?_; dsimp only)); refine Kd.R_lit k69 _ 69 ?hg (N := 20) ?hd (xs := ([(⟨0, 1⟩ : S69)] : List (S69))) (inner := [.int .i64 0, .int .i64 1]) (ok := fun _ => True) (okp := fun _ => True) ?hr ?hp (fun _ hk => hk) trivial (Below.refl _ _) (Nat.le_refl _) (by simp) ?_; (case hd => rfl); (case hg => rfl); (case hr => first | (go_simp; done) | (go_simp; rfl)); (case hp => exact (Reps.c2 (show Kd.M k69 _ _ _ (⟨0, 1⟩ : S69) [.int .i64 0, .int .i64 1] from (k69_mkM _ _ _ (⟨0, 1⟩ : S69) )) (Reps.none _ _))); intro v214 w65 ho66 hb hg_ hnew_; clear hg_ hnew_; (first | rw [← Ny213.out] at ho66 | (simp only [Int.reduceToNat] at ho66; rw [← Ny213.out] at ho66)); have HO215 := Aside0.mk (Kd.R_lower (Kd.R_new' ho66 (Kd.R_lt (ownx HO204))) (below_size bel)); replace HO204 := Aside0.mk (Kd.R_elder' (ownx HO204) (Kd.R_base ho66) hb); replace HO207 := Aside0.mk (Kd.R_below (ownx HO207) hb); replace HO211 := Aside0.mk (Kd.R_below (ownx HO211) hb); replace BK208 := Aside0.mk (blk_below (g := gb208) blkz hb); replace HB := Aside0.mk (below_step bel hb); clear hb ho66) | ((with_reducible refine gate_dst (N := 23) rfl ?_); (try (refine gate_guard (by rfl) ?_; dsimp only)); refine Kd.R_lit k71 _ 71 ?hg (N := 23) ?hd (xs := ([(⟨0, 1⟩ : S71), (⟨1, 2⟩ : S71)] : List (S71))) (inner := [.int .i64 0, .int .i64 1, .int .i64 1, .int .i64 2]) (ok := fun _ => True) (okp := fun _ => True) ?hr ?hp (fun _ hk => hk) trivial (Below.refl _ _) (Nat.le_refl _) (by simp) ?_; (case hd => rfl); (case hg => rfl); (case hr => first | (go_simp; done) | (go_simp; rfl)); (case hp => exact (Reps.c2 (show Kd.M k71 _ _ _ (⟨0, 1⟩ : S71) [.int .i64 0, .int .i64 1] from (k71_mkM _ _ _ (⟨0, 1⟩ : S71) )) (Reps.c2 (show Kd.M k71 _ _ _ (⟨1, 2⟩ : S71) [.int .i64 1, .int .i64 2] from (k71_mkM _ _ _ (⟨1, 2⟩ : S71) )) (Reps.none _ _)))); intro v217 w67 ho68 hb hg_ hnew_; clear hg_ hnew_; (first | rw [← Ny216.out] at ho68 | (simp only [Int.reduceToNat] at ho68; rw [← Ny216.out] at ho68)); have HO218 := Aside0.mk (Kd.R_lower (Kd.R_new' ho68 (Kd.R_lt (ownx HO207))) (below_size bel)); replace HO204 := Aside0.mk (Kd.R_below (ownx HO204) hb); replace HO207 := Aside0.mk (Kd.R_elder' (ownx HO207) (Kd.R_base ho68) hb); replace HO211 := Aside0.mk (Kd.R_below (ownx HO211) hb); replace HO215 := Aside0.mk (Kd.R_below (ownx HO215) hb); replace BK208 := Aside0.mk (blk_below (g := gb208) blkz hb); replace HB := Aside0.mk (below_step bel hb); clear hb ho68; obtain ⟨Ao69, co69, eo69⟩ := Kd.R_slice HO218.out; subst eo69; obtain ⟨Ao70, co70, eo70⟩ := Kd.R_slice HO215.out; subst eo70) | ((with_reducible refine gate_callee (f := 17) rfl ?_); refine goesL_ (some 25) rfl rfl Tryd.func17 (by kernel_rfl) rfl #[.agg #[.int .i64 2, .slice Ao70 y213.length co70, .slice Ao69 y216.length co69]] rfl mapz ?_; (with_reducible refine (feed_States.calls k 2 _ _ y213 _ _ y216 t219 t220 _ ?side1 ?side2 ?side3 ?side4 ?sideT A2.out).mono ?_); (case sideT => first | exact HT.out | exact Tab.Tabs.below HT.out bel | (with_reducible repeat (first | exact HT.out | apply Tab.Tabs.alloc | apply Tab.Tabs.drewN | apply Tab.Tabs.drew))); (case side1 => repeat (first | exact (Kd.R_reads' HO215.out).2.2 | (with_reducible refine Kd.C_alloc ?_ _) | (with_reducible refine Kd.C_drewN ?_ _) | (with_reducible refine Kd.C_drew ?_))); (case side2 => exact (Kd.R_reads' HO215.out).2.1); (case side3 => repeat (first | exact (Kd.R_reads' HO218.out).2.2 | (with_reducible refine Kd.C_alloc ?_ _) | (with_reducible refine Kd.C_drewN ?_ _) | (with_reducible refine Kd.C_drew ?_))); (case side4 => exact (Kd.R_reads' HO218.out).2.1); rintro e w71 ⟨rfl, hb⟩; refine ⟨_, rfl, ?_⟩; replace HO204 := Aside0.mk (Kd.R_below (ownx HO204) hb); replace HO207 := Aside0.mk (Kd.R_below (ownx HO207) hb); replace HO211 := Aside0.mk (Kd.R_below (ownx HO211) hb); replace HO215 := Aside0.mk (Kd.R_below (ownx HO215) hb); replace HO218 := Aside0.mk (Kd.R_below (ownx HO218) hb); replace BK208 := Aside0.mk (blk_below (g := gb208) blkz hb); replace HB := Aside0.mk (below_step bel hb); (try clear hb); (try clear hb2); (try clear hk); (try clear hi)))
  go_ret
  exact ⟨ezz, bel⟩

/-! ### dropperref05_section: function 58 -/
def dropperref05_section.f (a0_0 : Int) (l0_1 : List (S69)) (l0_2 : List (S71)) (a1 : Int) : Option (Bool) := if a1 ≥ 0 then (some (decide (a1 < a0_0))) else (some false)
set_option maxHeartbeats 8000000 in
set_option maxRecDepth 100000 in
theorem dropperref05_section.calls (a0_0 : Int) (A0_1 : Option Addr) (c0_1 : Nat) (l0_1 : List (S69)) (A0_2 : Option Addr) (c0_2 : Nat) (l0_2 : List (S71)) (a1 : Int) (r : Bool) (w : World) (hr0_1 : Kd.C k69 w A0_1 l0_1.length l0_1) (hc0_1 : l0_1.length ≤ c0_1) (hr0_2 : Kd.C k71 w A0_2 l0_2.length l0_2) (hc0_2 : l0_2.length ≤ c0_2) (h : dropperref05_section.f a0_0 l0_1 l0_2 a1 = some r) :
  Calls Tryd.prog 58 #[.agg #[.int .i64 a0_0, .slice A0_1 l0_1.length c0_1, .slice A0_2 l0_2.length c0_2], .int .i64 a1] w fun e w' => e = .returned (.bool r) ∧ Below w.heap.size w w' := by
 have hu25 := Tryd.underlying25
 have HR0_1 := Aside0.mk hr0_1
 have HC0_1 := Aside0.mk hc0_1
 clear hr0_1 hc0_1
 have HR0_2 := Aside0.mk hr0_2
 have HC0_2 := Aside0.mk hc0_2
 clear hr0_2 hc0_2
 have HB := Aside0.mk (Below.refl w.heap.size w)
 have H : (if a1 ≥ 0 then (some (decide (a1 < a0_0))) else (some false)) = some r := h
 clear h
 by_cases c3 : a1 ≥ 0
 ·
  rw [if_pos c3] at H
  have c3b0 : decide (0 ≤ a1) = true := decide_eq_true c3
  clear c3
  obtain rfl := Option.some.inj H
  go_enter Tryd.func58, Tryd.ntmps58
  go_wp2_with (first | ((with_reducible refine gate_dst (N := 2) rfl ?_); refine box_event ?hg (N := 2) ?hd (cs := #[.int .i64 a0_0, .slice A0_1 l0_1.length c0_1, .slice A0_2 l0_2.length c0_2]) (t := 25) ?hr ?_; (case hd => rfl); (case hg => rfl); (case hr => first | (go_simp; done) | (go_simp; rfl)); intro gb234 hg w4 hbox hb; have BK234 := Aside0.mk (hbox); have GW234 := bsz (w := w) hg; have GE234 := GW234; replace HB := Aside0.mk (below_step bel hb); clear hb hbox hg; have hcz5_0 := blkc BK234.out 0 (.int .i64 a0_0) rfl; have hcz5_1 := blkc BK234.out 1 (.slice A0_1 l0_1.length c0_1) rfl; have hcz5_2 := blkc BK234.out 2 (.slice A0_2 l0_2.length c0_2) rfl))
  go_ret
  exact ⟨ezz, bel⟩
 ·
  rw [if_neg c3] at H
  have c3b0 : decide (0 ≤ a1) = false := decide_eq_false c3
  clear c3
  obtain rfl := Option.some.inj H
  go_enter Tryd.func58, Tryd.ntmps58
  go_wp2_with (first | ((with_reducible refine gate_dst (N := 2) rfl ?_); refine box_event ?hg (N := 2) ?hd (cs := #[.int .i64 a0_0, .slice A0_1 l0_1.length c0_1, .slice A0_2 l0_2.length c0_2]) (t := 25) ?hr ?_; (case hd => rfl); (case hg => rfl); (case hr => first | (go_simp; done) | (go_simp; rfl)); intro gb234 hg w6 hbox hb; have BK234 := Aside0.mk (hbox); have GW234 := bsz (w := w) hg; have GE234 := GW234; replace HB := Aside0.mk (below_step bel hb); clear hb hbox hg))
  go_ret
  exact ⟨ezz, bel⟩

/-! ### dropperref05_Valid: function 20 -/
mutual
def dropperref05_Valid.j0 : Nat → Bool → Int → List (S69) → List (S71) → Option (Bool)
 | 0, _, _, _, _ => none
 | k + 1, x26, x236000, x236001, x236002 => if x26 = true then (some false) else (dropperref05_Valid.l0 k 0 x236000 x236001 x236002)
def dropperref05_Valid.l0 : Nat → Int → Int → List (S69) → List (S71) → Option (Bool)
 | 0, _, _, _, _ => none
 | k + 1, x3, x236000, x236001, x236002 => if x3 < (x236001.length : Int) then (if 0 ≤ x3 then ((dropperref05_section.f x236000 x236001 x236002 ((rd_T69 x236001 x3).f0)).bind fun t238 => (if t238 = true then ((dropperref05_section.f x236000 x236001 x236002 ((rd_T69 x236001 x3).f1)).bind fun t239 => (if t239 = true then (if ((rd_T69 x236001 x3).f0) = ((rd_T69 x236001 x3).f1) then (some false) else (dropperref05_Valid.l0 k (wrap64 (x3 + 1)) x236000 x236001 x236002)) else (some false))) else (some false))) else (none)) else (dropperref05_Valid.l1 k 0 x236000 x236001 x236002)
def dropperref05_Valid.l1 : Nat → Int → Int → List (S69) → List (S71) → Option (Bool)
 | 0, _, _, _, _ => none
 | k + 1, x5, x236000, x236001, x236002 => if x5 < (x236002.length : Int) then (if 0 ≤ x5 then ((dropperref05_section.f x236000 x236001 x236002 ((rd_T71 x236002 x5).f0)).bind fun t242 => (if t242 = true then (if ((rd_T71 x236002 x5).f1) < 1 then (some false) else (if ((rd_T71 x236002 x5).f1) > 3 then (some false) else (dropperref05_Valid.l1 k (wrap64 (x5 + 1)) x236000 x236001 x236002))) else (some false))) else (none)) else (some true)
end
def dropperref05_Valid.f (k : Nat) (a0_0 : Int) (l0_1 : List (S69)) (l0_2 : List (S71)) : Option (Bool) := if a0_0 < 1 then (dropperref05_Valid.j0 k true a0_0 l0_1 l0_2) else (if a0_0 > 8 then (dropperref05_Valid.j0 k true a0_0 l0_1 l0_2) else (if (l0_1.length : Int) > 10 then (dropperref05_Valid.j0 k true a0_0 l0_1 l0_2) else (dropperref05_Valid.j0 k (decide ((l0_2.length : Int) > 6)) a0_0 l0_1 l0_2)))
theorem dropperref05_Valid.mono_l : ∀ k, (∀ y0 y1 y2 y3, LeO (dropperref05_Valid.j0 k y0 y1 y2 y3) (dropperref05_Valid.j0 (k + 1) y0 y1 y2 y3)) ∧ (∀ y0 y1 y2 y3, LeO (dropperref05_Valid.l0 k y0 y1 y2 y3) (dropperref05_Valid.l0 (k + 1) y0 y1 y2 y3)) ∧ (∀ y0 y1 y2 y3, LeO (dropperref05_Valid.l1 k y0 y1 y2 y3) (dropperref05_Valid.l1 (k + 1) y0 y1 y2 y3))
 | 0 => ⟨fun _ _ _ _ r h => by simp [dropperref05_Valid.j0] at h, fun _ _ _ _ r h => by simp [dropperref05_Valid.l0] at h, fun _ _ _ _ r h => by simp [dropperref05_Valid.l1] at h⟩
 | k + 1 => by
  obtain ⟨ih0, ih1, ih2⟩ := dropperref05_Valid.mono_l k
  refine ⟨?_, ?_, ?_⟩
  ·
   intro y0 y1 y2 y3
   unfold dropperref05_Valid.j0
   repeat' first
   | (with_reducible exact ih0 _ _ _ _)
   | (with_reducible exact ih1 _ _ _ _)
   | (with_reducible exact ih2 _ _ _ _)
   | (with_reducible exact LeO.refl _)
   | (with_reducible exact LeO.none _)
   | (with_reducible refine LeO.ite ?_ ?_)
   | (with_reducible refine LeO.bind ?_ (fun _ => ?_))
   | exact ih0 _ _ _ _
   | exact ih1 _ _ _ _
   | exact ih2 _ _ _ _
   | exact LeO.none _
   | refine LeO.ite ?_ ?_
   | refine LeO.bind ?_ (fun _ => ?_)
  ·
   intro y0 y1 y2 y3
   unfold dropperref05_Valid.l0
   repeat' first
   | (with_reducible exact ih0 _ _ _ _)
   | (with_reducible exact ih1 _ _ _ _)
   | (with_reducible exact ih2 _ _ _ _)
   | (with_reducible exact LeO.refl _)
   | (with_reducible exact LeO.none _)
   | (with_reducible refine LeO.ite ?_ ?_)
   | (with_reducible refine LeO.bind ?_ (fun _ => ?_))
   | exact ih0 _ _ _ _
   | exact ih1 _ _ _ _
   | exact ih2 _ _ _ _
   | exact LeO.none _
   | refine LeO.ite ?_ ?_
   | refine LeO.bind ?_ (fun _ => ?_)
  ·
   intro y0 y1 y2 y3
   unfold dropperref05_Valid.l1
   repeat' first
   | (with_reducible exact ih0 _ _ _ _)
   | (with_reducible exact ih1 _ _ _ _)
   | (with_reducible exact ih2 _ _ _ _)
   | (with_reducible exact LeO.refl _)
   | (with_reducible exact LeO.none _)
   | (with_reducible refine LeO.ite ?_ ?_)
   | (with_reducible refine LeO.bind ?_ (fun _ => ?_))
   | exact ih0 _ _ _ _
   | exact ih1 _ _ _ _
   | exact ih2 _ _ _ _
   | exact LeO.none _
   | refine LeO.ite ?_ ?_
   | refine LeO.bind ?_ (fun _ => ?_)
theorem dropperref05_Valid.mono : ∀ a0 a1 a2 k, LeO (dropperref05_Valid.f k a0 a1 a2) (dropperref05_Valid.f (k + 1) a0 a1 a2) := by
 intro a0 a1 a2 k
 obtain ⟨ih0, ih1, ih2⟩ := dropperref05_Valid.mono_l k
 unfold dropperref05_Valid.f
 repeat' first
   | (with_reducible exact ih0 _ _ _ _)
   | (with_reducible exact ih1 _ _ _ _)
   | (with_reducible exact ih2 _ _ _ _)
   | (with_reducible exact LeO.refl _)
   | (with_reducible exact LeO.none _)
   | (with_reducible refine LeO.ite ?_ ?_)
   | (with_reducible refine LeO.bind ?_ (fun _ => ?_))
   | exact ih0 _ _ _ _
   | exact ih1 _ _ _ _
   | exact ih2 _ _ _ _
   | exact LeO.none _
   | refine LeO.ite ?_ ?_
   | refine LeO.bind ?_ (fun _ => ?_)
set_option maxHeartbeats 8000000 in
set_option maxRecDepth 100000 in
theorem dropperref05_Valid.calls (k : Nat) (a0_0 : Int) (A0_1 : Option Addr) (c0_1 : Nat) (l0_1 : List (S69)) (A0_2 : Option Addr) (c0_2 : Nat) (l0_2 : List (S71)) (r : Bool) (w : World) (hr0_1 : Kd.C k69 w A0_1 l0_1.length l0_1) (hc0_1 : l0_1.length ≤ c0_1) (hr0_2 : Kd.C k71 w A0_2 l0_2.length l0_2) (hc0_2 : l0_2.length ≤ c0_2) (h : dropperref05_Valid.f k a0_0 l0_1 l0_2 = some r) :
  Calls Tryd.prog 20 #[.agg #[.int .i64 a0_0, .slice A0_1 l0_1.length c0_1, .slice A0_2 l0_2.length c0_2]] w fun e w' => e = .returned (.bool r) ∧ Below w.heap.size w w' := by
 have hu25 := Tryd.underlying25
 have hu69 := Tryd.underlying69
 have hu71 := Tryd.underlying71
 have HR0_1 := Aside0.mk hr0_1
 have HC0_1 := Aside0.mk hc0_1
 clear hr0_1 hc0_1
 have HR0_2 := Aside0.mk hr0_2
 have HC0_2 := Aside0.mk hc0_2
 clear hr0_2 hc0_2
 have HB := Aside0.mk (Below.refl w.heap.size w)
 have H : (if a0_0 < 1 then (dropperref05_Valid.j0 k true a0_0 l0_1 l0_2) else (if a0_0 > 8 then (dropperref05_Valid.j0 k true a0_0 l0_1 l0_2) else (if (l0_1.length : Int) > 10 then (dropperref05_Valid.j0 k true a0_0 l0_1 l0_2) else (dropperref05_Valid.j0 k (decide ((l0_2.length : Int) > 6)) a0_0 l0_1 l0_2)))) = some r := h
 clear h
 have HC2 := Aside0.mk H
 clear H
 go_enter Tryd.func20, Tryd.ntmps20
 go_upto_region 1 with (first | ((with_reducible refine gate_dst (N := 1) rfl ?_); (try (refine gate_guard (by rfl) ?_; dsimp only)); refine box_event ?hg (N := 1) ?hd (cs := #[.int .i64 a0_0, .slice A0_1 l0_1.length c0_1, .slice A0_2 l0_2.length c0_2]) (t := 25) ?hr ?_; (case hd => rfl); (case hg => rfl); (case hr => first | (go_simp; done) | (go_simp; rfl)); intro gb235 hg w3 hbox hb; have BK235 := Aside0.mk (hbox); have GW235 := bsz (w := w) hg; have GE235 := GW235; replace HB := Aside0.mk (below_step bel hb); clear hb hbox hg))
 (try simp only [Act.put, List.setIfInBounds_toArray, List.set_cons_zero, List.set_cons_succ])
 go_cut [26] (fun v26 wc => ∃ (kq : Nat) (x26_1 : Bool), v26 = .bool x26_1 ∧ Aside0 (dropperref05_Valid.j0 kq x26_1 a0_0 l0_1 l0_2 = some r) ∧ Aside0 (kq ≤ k) ∧ Aside0 (wc.heap[gb235]? = some (.cells #[.int .i64 a0_0, (.slice A0_1 l0_1.length c0_1), (.slice A0_2 l0_2.length c0_2)] 25 (0, 0))) ∧ Aside0 (Below w.heap.size w wc))
 case first =>
  have H := HC2.out
  clear HC2
  by_cases c4 : a0_0 < 1
  ·
   rw [if_pos c4] at H
   have c4b0 : decide (a0_0 < 1) = true := decide_eq_true c4
   clear c4
   (first | rw [c4b0] | (simp only [i64_w, i32_w]; rw [c4b0]) | skip)
   have H' := Aside0.mk H
   clear H
   have hcz5_0 := blkc BK235.out 0 (.int .i64 a0_0) rfl
   have hcz5_1 := blkc BK235.out 1 (.slice A0_1 l0_1.length c0_1) rfl
   have hcz5_2 := blkc BK235.out 2 (.slice A0_2 l0_2.length c0_2) rfl
   have hfz5_0 := blk_frozen BK235.out 0
   have hfz5_1 := blk_frozen BK235.out 1
   have hfz5_2 := blk_frozen BK235.out 2
   go_wp2
   go_meet
   case rel => exact ⟨_, (true), rsz, H', ⟨by first | omega | exact Nat.le_refl _⟩, ⟨blkz⟩, ⟨bel⟩⟩
  ·
   rw [if_neg c4] at H
   have c4b0 : decide (a0_0 < 1) = false := decide_eq_false c4
   clear c4
   (first | rw [c4b0] | (simp only [i64_w, i32_w]; rw [c4b0]) | skip)
   by_cases c6 : a0_0 > 8
   ·
    rw [if_pos c6] at H
    have c6b0 : decide (8 < a0_0) = true := decide_eq_true c6
    clear c6
    have H' := Aside0.mk H
    clear H
    have hcz7_0 := blkc BK235.out 0 (.int .i64 a0_0) rfl
    have hcz7_1 := blkc BK235.out 1 (.slice A0_1 l0_1.length c0_1) rfl
    have hcz7_2 := blkc BK235.out 2 (.slice A0_2 l0_2.length c0_2) rfl
    have hfz7_0 := blk_frozen BK235.out 0
    have hfz7_1 := blk_frozen BK235.out 1
    have hfz7_2 := blk_frozen BK235.out 2
    go_wp2
    go_meet
    case rel => exact ⟨_, (true), rsz, H', ⟨by first | omega | exact Nat.le_refl _⟩, ⟨blkz⟩, ⟨bel⟩⟩
   ·
    rw [if_neg c6] at H
    have c6b0 : decide (8 < a0_0) = false := decide_eq_false c6
    clear c6
    by_cases c8 : (l0_1.length : Int) > 10
    ·
     rw [if_pos c8] at H
     have c8b0 : decide (10 < (l0_1.length : Int)) = true := decide_eq_true c8
     have c8b1 : decide (10 < l0_1.length) = true := decide_eq_true (by omega)
     clear c8
     have H' := Aside0.mk H
     clear H
     have hcz9_0 := blkc BK235.out 0 (.int .i64 a0_0) rfl
     have hcz9_1 := blkc BK235.out 1 (.slice A0_1 l0_1.length c0_1) rfl
     have hcz9_2 := blkc BK235.out 2 (.slice A0_2 l0_2.length c0_2) rfl
     have hfz9_0 := blk_frozen BK235.out 0
     have hfz9_1 := blk_frozen BK235.out 1
     have hfz9_2 := blk_frozen BK235.out 2
     go_wp2
     go_meet
     case rel => exact ⟨_, (true), rsz, H', ⟨by first | omega | exact Nat.le_refl _⟩, ⟨blkz⟩, ⟨bel⟩⟩
    ·
     rw [if_neg c8] at H
     have c8b0 : decide (10 < (l0_1.length : Int)) = false := decide_eq_false c8
     have c8b1 : decide (10 < l0_1.length) = false := decide_eq_false (by omega)
     clear c8
     have H' := Aside0.mk H
     clear H
     have hcz10_0 := blkc BK235.out 0 (.int .i64 a0_0) rfl
     have hcz10_1 := blkc BK235.out 1 (.slice A0_1 l0_1.length c0_1) rfl
     have hcz10_2 := blkc BK235.out 2 (.slice A0_2 l0_2.length c0_2) rfl
     have hfz10_0 := blk_frozen BK235.out 0
     have hfz10_1 := blk_frozen BK235.out 1
     have hfz10_2 := blk_frozen BK235.out 2
     go_wp2
     go_meet
     case rel => exact ⟨_, (decide ((l0_2.length : Int) > 6)), rsz, H', ⟨by first | omega | exact Nat.le_refl _⟩, ⟨blkz⟩, ⟨bel⟩⟩
 case rest =>
  clear HC2
  try clear c2
  try clear p2
  try clear c4
  try clear c4b0
  try clear c6
  try clear c6b0
  try clear c8
  try clear c8b0
  try clear c8b1
  try clear hcz10_0
  try clear hcz10_1
  try clear hcz10_2
  try clear hcz5_0
  try clear hcz5_1
  try clear hcz5_2
  try clear hcz7_0
  try clear hcz7_1
  try clear hcz7_2
  try clear hcz9_0
  try clear hcz9_1
  try clear hcz9_2
  try clear hfz10_0
  try clear hfz10_1
  try clear hfz10_2
  try clear hfz5_0
  try clear hfz5_1
  try clear hfz5_2
  try clear hfz7_0
  try clear hfz7_1
  try clear hfz7_2
  try clear hfz9_0
  try clear hfz9_1
  try clear hfz9_2
  obtain ⟨kq, x26_1, rfl, HA, HJ1, BK235, HB⟩ := hcut
  cases kq with
  | zero => exact absurd HA.out (by simp [dropperref05_Valid.j0])
  | succ kj1 =>
   have H := HA.out
   clear HA
   simp only [dropperref05_Valid.j0] at H
   by_cases c11 : x26_1 = true
   ·
    subst c11
    have H1 : (some false) = some r := by rw [if_pos rfl] at H; exact H
    clear H
    have H := H1
    clear H1
    obtain rfl := Option.some.inj H
    go_wp2
    go_ret
    exact ⟨ezz, bel⟩
   ·
    replace c11 := Bool.eq_false_iff.mpr c11
    subst c11
    have H1 : (dropperref05_Valid.l0 kj1 0 a0_0 l0_1 l0_2) = some r := by rw [if_neg (show ¬ (false = true) by decide)] at H; exact H
    clear H
    have H := H1
    clear H1
    have H' := Aside0.mk H
    clear H
    go_wp2
    go_loopg [3] kj1 (fun kq v3 w' => ∃ (x3_2 : Int), v3 = .int .i64 x3_2 ∧ Aside0 (dropperref05_Valid.l0 kq x3_2 a0_0 l0_1 l0_2 = some r) ∧ Aside0 (kq ≤ kj1) ∧ Aside0 (w'.heap[gb235]? = some (.cells #[.int .i64 a0_0, (.slice A0_1 l0_1.length c0_1), (.slice A0_2 l0_2.length c0_2)] 25 (0, 0))) ∧ Aside0 (Below w.heap.size w w'))
    case atStart => exact ⟨(0), rsz, H', ⟨Nat.le_refl _⟩, ⟨blkz⟩, ⟨bel⟩⟩
    case round =>
     clear H'
     try clear c1
     try clear c2
     try clear p2
     try clear c4
     try clear c4b0
     try clear c6
     try clear c6b0
     try clear c8
     try clear c8b0
     try clear c8b1
     try clear c11
     try clear hcz10_0
     try clear hcz10_1
     try clear hcz10_2
     try clear hcz5_0
     try clear hcz5_1
     try clear hcz5_2
     try clear hcz7_0
     try clear hcz7_1
     try clear hcz7_2
     try clear hcz9_0
     try clear hcz9_1
     try clear hcz9_2
     try clear hfz10_0
     try clear hfz10_1
     try clear hfz10_2
     try clear hfz5_0
     try clear hfz5_1
     try clear hfz5_2
     try clear hfz7_0
     try clear hfz7_1
     try clear hfz7_2
     try clear hfz9_0
     try clear hfz9_1
     try clear hfz9_2
     try clear p2
     obtain ⟨x3_2, rfl, HA, HK2, BK235, HB⟩ := hrel
     cases gk with
     | zero => exact absurd HA.out (by simp [dropperref05_Valid.l0])
     | succ k2 =>
      have H := HA.out
      clear HA
      simp only [dropperref05_Valid.l0] at H
      by_cases c12 : x3_2 < (l0_1.length : Int)
      ·
       rw [if_pos c12] at H
       have c12b0 : decide (x3_2 < (l0_1.length : Int)) = true := decide_eq_true c12
       clear c12
       by_cases c13 : 0 ≤ x3_2
       ·
        rw [if_pos c13] at H
        have c13b0 : decide (0 ≤ x3_2) = true := decide_eq_true c13
        clear c13
        replace H := Option.bind_eq_some_iff.mp H
        obtain ⟨t238, A140, H⟩ := H
        replace H : (if t238 = true then ((dropperref05_section.f a0_0 l0_1 l0_2 ((rd_T69 l0_1 x3_2).f1)).bind fun t239 => (if t239 = true then (if ((rd_T69 l0_1 x3_2).f0) = ((rd_T69 l0_1 x3_2).f1) then (some false) else (dropperref05_Valid.l0 k2 (wrap64 (x3_2 + 1)) a0_0 l0_1 l0_2)) else (some false))) else (some false)) = some r := H
        have A14 := Aside0.mk A140
        clear A140
        by_cases c15 : t238 = true
        ·
         subst c15
         have H1 : ((dropperref05_section.f a0_0 l0_1 l0_2 ((rd_T69 l0_1 x3_2).f1)).bind fun t239 => (if t239 = true then (if ((rd_T69 l0_1 x3_2).f0) = ((rd_T69 l0_1 x3_2).f1) then (some false) else (dropperref05_Valid.l0 k2 (wrap64 (x3_2 + 1)) a0_0 l0_1 l0_2)) else (some false))) = some r := by rw [if_pos rfl] at H; exact H
         clear H
         have H := H1
         clear H1
         replace H := Option.bind_eq_some_iff.mp H
         obtain ⟨t239, A160, H⟩ := H
         replace H : (if t239 = true then (if ((rd_T69 l0_1 x3_2).f0) = ((rd_T69 l0_1 x3_2).f1) then (some false) else (dropperref05_Valid.l0 k2 (wrap64 (x3_2 + 1)) a0_0 l0_1 l0_2)) else (some false)) = some r := H
         have A16 := Aside0.mk A160
         clear A160
         by_cases c17 : t239 = true
         ·
          subst c17
          have H1 : (if ((rd_T69 l0_1 x3_2).f0) = ((rd_T69 l0_1 x3_2).f1) then (some false) else (dropperref05_Valid.l0 k2 (wrap64 (x3_2 + 1)) a0_0 l0_1 l0_2)) = some r := by rw [if_pos rfl] at H; exact H
          clear H
          have H := H1
          clear H1
          by_cases c18 : ((rd_T69 l0_1 x3_2).f0) = ((rd_T69 l0_1 x3_2).f1)
          ·
           rw [if_pos c18] at H
           have c18b0 : (((rd_T69 l0_1 x3_2).f0) == ((rd_T69 l0_1 x3_2).f1)) = true := beq_iff_eq.mpr c18
           have c18b1 : (((rd_T69 l0_1 x3_2).f0) != ((rd_T69 l0_1 x3_2).f1)) = false := bne_eq_false_iff_eq.mpr c18
           clear c18
           obtain rfl := Option.some.inj H
           have hcz19_0 := blkc BK235.out 0 (.int .i64 a0_0) rfl
           have hcz19_1 := blkc BK235.out 1 (.slice A0_1 l0_1.length c0_1) rfl
           have hcz19_2 := blkc BK235.out 2 (.slice A0_2 l0_2.length c0_2) rfl
           have hfz19_0 := blk_frozen BK235.out 0
           have hfz19_1 := blk_frozen BK235.out 1
           have hfz19_2 := blk_frozen BK235.out 2
           have p236 : 0 ≤ (x3_2 : Int) := of_decide_eq_true asz
           have q236 : x3_2 < (l0_1.length : Int) := of_decide_eq_true asz
           obtain ⟨ad236, e236, hx236_0, hx236_1⟩ := at_T69 HR0_1.out x3_2 p236 q236
           cases e236
           replace hx236_0 := (HB.out.cell (World.block_lt_of_cell? w _ hx236_0)).trans hx236_0
           replace hx236_1 := (HB.out.cell (World.block_lt_of_cell? w _ hx236_1)).trans hx236_1
           replace p236 := eq_true p236
           replace q236 := eq_true q236
           go_wp2_with (first | ((with_reducible refine gate_dst (N := 4) rfl ?_); (try (refine gate_guard (by rfl) ?_; dsimp only)); refine box_event ?hg (N := 4) ?hd (cs := #[.int .i64 0, .int .i64 0]) (t := 69) ?hr ?_; (case hd => rfl); (case hg => rfl); (case hr => first | (go_simp; done) | (go_simp; rfl)); intro gb237 hg w20 hbox hb; have BK237 := Aside0.mk (hbox); have GW237 := bsz (w := w) hg; have GE237 := GW237; have NB235_237 := neL (g := gb235) hg; have NB237_235 := neR (g := gb235) hg; replace BK235 := Aside0.mk (blk_below (g := gb235) blkz hb); replace HB := Aside0.mk (below_step bel hb); clear hb hbox hg; have hnb21 := NB237_235.out; have hnc21 := NB235_237.out; have hcz22_0 := blkc BK237.out 0 (.int .i64 0) rfl; have hcz22_1 := blkc BK237.out 1 (.int .i64 0) rfl; have hfz22_0 := blk_frozen BK237.out 0; have hfz22_1 := blk_frozen BK237.out 1; have hcz23_0 := blkc BK235.out 0 (.int .i64 a0_0) rfl; have hcz23_1 := blkc BK235.out 1 (.slice (some ad236) l0_1.length c0_1) rfl; have hcz23_2 := blkc BK235.out 2 (.slice A0_2 l0_2.length c0_2) rfl) | ((with_reducible refine gate_callee (f := 58) rfl ?_); refine goesL_ (some 42) rfl rfl Tryd.func58 (by kernel_rfl) rfl #[.agg #[.int .i64 a0_0, .slice (some ad236) l0_1.length c0_1, .slice A0_2 l0_2.length c0_2], .int .i64 ((rd_T69 l0_1 x3_2).f0)] rfl mapz ?_; (with_reducible refine (dropperref05_section.calls a0_0 _ _ l0_1 _ _ l0_2 ((rd_T69 l0_1 x3_2).f0) true _ ?side1 ?side2 ?side3 ?side4 A14.out).mono ?_); (case side1 => exact cbz HR0_1); (case side2 => exact HC0_1.out); (case side3 => exact cbz HR0_2); (case side4 => exact HC0_2.out); rintro e w24 ⟨rfl, hb⟩; refine ⟨_, rfl, ?_⟩; replace BK235 := Aside0.mk (blk_below (g := gb235) (o := .cells #[.int .i64 a0_0, .slice (some ad236) l0_1.length c0_1, .slice A0_2 l0_2.length c0_2] 25 (0, 0)) (by (with_reducible repeat (first | refine blk_drewN ?_ _ | refine blk_drew ?_ | refine blk_alloc ?_ _)); refine blk_far ?_ NB235_237.out _; (with_reducible repeat (first | refine blk_drewN ?_ _ | refine blk_drew ?_ | refine blk_alloc ?_ _)); refine blk_far ?_ NB235_237.out _; (with_reducible repeat (first | refine blk_drewN ?_ _ | refine blk_drew ?_ | refine blk_alloc ?_ _)); exact BK235.out) hb); replace BK237 := Aside0.mk (blk_below (g := gb237) (o := .cells #[.int .i64 ((rd_T69 l0_1 x3_2).f0), .int .i64 ((rd_T69 l0_1 x3_2).f1)] 69 (0, 0)) (by (with_reducible repeat (first | refine blk_drewN ?_ _ | refine blk_drew ?_ | refine blk_alloc ?_ _)); refine blk_put (cs := #[.int .i64 ((rd_T69 l0_1 x3_2).f0), .int .i64 0]) ?_ 1 _ rfl; (with_reducible repeat (first | refine blk_drewN ?_ _ | refine blk_drew ?_ | refine blk_alloc ?_ _)); refine blk_put (cs := #[.int .i64 0, .int .i64 0]) ?_ 0 _ rfl; (with_reducible repeat (first | refine blk_drewN ?_ _ | refine blk_drew ?_ | refine blk_alloc ?_ _)); exact BK237.out) hb); replace HB := Aside0.mk (below_step bel hb); (try clear hb); (try clear hb2); (try clear hk); (try clear hi); have hcz25_0 := blkc BK235.out 0 (.int .i64 a0_0) rfl; have hcz25_1 := blkc BK235.out 1 (.slice (some ad236) l0_1.length c0_1) rfl; have hcz25_2 := blkc BK235.out 2 (.slice A0_2 l0_2.length c0_2) rfl; have hcz26_0 := blkc BK237.out 0 (.int .i64 ((rd_T69 l0_1 x3_2).f0)) rfl; have hcz26_1 := blkc BK237.out 1 (.int .i64 ((rd_T69 l0_1 x3_2).f1)) rfl; have hfz26_0 := blk_frozen BK237.out 0; have hfz26_1 := blk_frozen BK237.out 1) | (go_at_call 58; (with_reducible refine (dropperref05_section.calls a0_0 _ _ l0_1 _ _ l0_2 ((rd_T69 l0_1 x3_2).f1) true _ ?side1 ?side2 ?side3 ?side4 A16.out).mono ?_); (case side1 => exact cbz HR0_1); (case side2 => exact HC0_1.out); (case side3 => exact cbz HR0_2); (case side4 => exact HC0_2.out); rintro e w27 ⟨rfl, hb⟩; replace BK235 := Aside0.mk (blk_below (g := gb235) blkz hb); replace BK237 := Aside0.mk (blk_below (g := gb237) blkz hb); replace HB := Aside0.mk (below_step bel hb); (try clear hb); (try clear hb2); (try clear hk); (try clear hi); have hcz28_0 := blkc BK237.out 0 (.int .i64 ((rd_T69 l0_1 x3_2).f0)) rfl; have hcz28_1 := blkc BK237.out 1 (.int .i64 ((rd_T69 l0_1 x3_2).f1)) rfl; have hfz28_0 := blk_frozen BK237.out 0; have hfz28_1 := blk_frozen BK237.out 1))
           go_ret
           exact ⟨ezz, bel⟩
          ·
           rw [if_neg c18] at H
           have c18b0 : (((rd_T69 l0_1 x3_2).f0) == ((rd_T69 l0_1 x3_2).f1)) = false := beq_eq_false_iff_ne.mpr c18
           have c18b1 : (((rd_T69 l0_1 x3_2).f0) != ((rd_T69 l0_1 x3_2).f1)) = true := bne_iff_ne.mpr c18
           have H' := Aside0.mk H
           clear H
           have hcz29_0 := blkc BK235.out 0 (.int .i64 a0_0) rfl
           have hcz29_1 := blkc BK235.out 1 (.slice A0_1 l0_1.length c0_1) rfl
           have hcz29_2 := blkc BK235.out 2 (.slice A0_2 l0_2.length c0_2) rfl
           have hfz29_0 := blk_frozen BK235.out 0
           have hfz29_1 := blk_frozen BK235.out 1
           have hfz29_2 := blk_frozen BK235.out 2
           have p236 : 0 ≤ (x3_2 : Int) := of_decide_eq_true asz
           have q236 : x3_2 < (l0_1.length : Int) := of_decide_eq_true asz
           obtain ⟨ad236, e236, hx236_0, hx236_1⟩ := at_T69 HR0_1.out x3_2 p236 q236
           cases e236
           replace hx236_0 := (HB.out.cell (World.block_lt_of_cell? w _ hx236_0)).trans hx236_0
           replace hx236_1 := (HB.out.cell (World.block_lt_of_cell? w _ hx236_1)).trans hx236_1
           replace p236 := eq_true p236
           replace q236 := eq_true q236
           go_wp2_with (first | ((with_reducible refine gate_dst (N := 4) rfl ?_); (try (refine gate_guard (by rfl) ?_; dsimp only)); refine box_event ?hg (N := 4) ?hd (cs := #[.int .i64 0, .int .i64 0]) (t := 69) ?hr ?_; (case hd => rfl); (case hg => rfl); (case hr => first | (go_simp; done) | (go_simp; rfl)); intro gb237 hg w30 hbox hb; have BK237 := Aside0.mk (hbox); have GW237 := bsz (w := w) hg; have GE237 := GW237; have NB235_237 := neL (g := gb235) hg; have NB237_235 := neR (g := gb235) hg; replace BK235 := Aside0.mk (blk_below (g := gb235) blkz hb); replace HB := Aside0.mk (below_step bel hb); clear hb hbox hg; have hnb31 := NB237_235.out; have hnc31 := NB235_237.out; have hcz32_0 := blkc BK237.out 0 (.int .i64 0) rfl; have hcz32_1 := blkc BK237.out 1 (.int .i64 0) rfl; have hfz32_0 := blk_frozen BK237.out 0; have hfz32_1 := blk_frozen BK237.out 1; have hcz33_0 := blkc BK235.out 0 (.int .i64 a0_0) rfl; have hcz33_1 := blkc BK235.out 1 (.slice (some ad236) l0_1.length c0_1) rfl; have hcz33_2 := blkc BK235.out 2 (.slice A0_2 l0_2.length c0_2) rfl) | ((with_reducible refine gate_callee (f := 58) rfl ?_); refine goesL_ (some 42) rfl rfl Tryd.func58 (by kernel_rfl) rfl #[.agg #[.int .i64 a0_0, .slice (some ad236) l0_1.length c0_1, .slice A0_2 l0_2.length c0_2], .int .i64 ((rd_T69 l0_1 x3_2).f0)] rfl mapz ?_; (with_reducible refine (dropperref05_section.calls a0_0 _ _ l0_1 _ _ l0_2 ((rd_T69 l0_1 x3_2).f0) true _ ?side1 ?side2 ?side3 ?side4 A14.out).mono ?_); (case side1 => exact cbz HR0_1); (case side2 => exact HC0_1.out); (case side3 => exact cbz HR0_2); (case side4 => exact HC0_2.out); rintro e w34 ⟨rfl, hb⟩; refine ⟨_, rfl, ?_⟩; replace BK235 := Aside0.mk (blk_below (g := gb235) (o := .cells #[.int .i64 a0_0, .slice (some ad236) l0_1.length c0_1, .slice A0_2 l0_2.length c0_2] 25 (0, 0)) (by (with_reducible repeat (first | refine blk_drewN ?_ _ | refine blk_drew ?_ | refine blk_alloc ?_ _)); refine blk_far ?_ NB235_237.out _; (with_reducible repeat (first | refine blk_drewN ?_ _ | refine blk_drew ?_ | refine blk_alloc ?_ _)); refine blk_far ?_ NB235_237.out _; (with_reducible repeat (first | refine blk_drewN ?_ _ | refine blk_drew ?_ | refine blk_alloc ?_ _)); exact BK235.out) hb); replace BK237 := Aside0.mk (blk_below (g := gb237) (o := .cells #[.int .i64 ((rd_T69 l0_1 x3_2).f0), .int .i64 ((rd_T69 l0_1 x3_2).f1)] 69 (0, 0)) (by (with_reducible repeat (first | refine blk_drewN ?_ _ | refine blk_drew ?_ | refine blk_alloc ?_ _)); refine blk_put (cs := #[.int .i64 ((rd_T69 l0_1 x3_2).f0), .int .i64 0]) ?_ 1 _ rfl; (with_reducible repeat (first | refine blk_drewN ?_ _ | refine blk_drew ?_ | refine blk_alloc ?_ _)); refine blk_put (cs := #[.int .i64 0, .int .i64 0]) ?_ 0 _ rfl; (with_reducible repeat (first | refine blk_drewN ?_ _ | refine blk_drew ?_ | refine blk_alloc ?_ _)); exact BK237.out) hb); replace HB := Aside0.mk (below_step bel hb); (try clear hb); (try clear hb2); (try clear hk); (try clear hi); have hcz35_0 := blkc BK235.out 0 (.int .i64 a0_0) rfl; have hcz35_1 := blkc BK235.out 1 (.slice (some ad236) l0_1.length c0_1) rfl; have hcz35_2 := blkc BK235.out 2 (.slice A0_2 l0_2.length c0_2) rfl; have hcz36_0 := blkc BK237.out 0 (.int .i64 ((rd_T69 l0_1 x3_2).f0)) rfl; have hcz36_1 := blkc BK237.out 1 (.int .i64 ((rd_T69 l0_1 x3_2).f1)) rfl; have hfz36_0 := blk_frozen BK237.out 0; have hfz36_1 := blk_frozen BK237.out 1) | (go_at_call 58; (with_reducible refine (dropperref05_section.calls a0_0 _ _ l0_1 _ _ l0_2 ((rd_T69 l0_1 x3_2).f1) true _ ?side1 ?side2 ?side3 ?side4 A16.out).mono ?_); (case side1 => exact cbz HR0_1); (case side2 => exact HC0_1.out); (case side3 => exact cbz HR0_2); (case side4 => exact HC0_2.out); rintro e w37 ⟨rfl, hb⟩; replace BK235 := Aside0.mk (blk_below (g := gb235) blkz hb); replace BK237 := Aside0.mk (blk_below (g := gb237) blkz hb); replace HB := Aside0.mk (below_step bel hb); (try clear hb); (try clear hb2); (try clear hk); (try clear hi); have hcz38_0 := blkc BK237.out 0 (.int .i64 ((rd_T69 l0_1 x3_2).f0)) rfl; have hcz38_1 := blkc BK237.out 1 (.int .i64 ((rd_T69 l0_1 x3_2).f1)) rfl; have hfz38_0 := blk_frozen BK237.out 0; have hfz38_1 := blk_frozen BK237.out 1))
           go_roundg k2
           case measure => have := HJ1.out; have := HK2.out; omega
           case rel => exact ⟨(wrap64 (x3_2 + 1)), rsz, H', ⟨by have := HJ1.out; have := HK2.out; omega⟩, ⟨blkz⟩, ⟨bel⟩⟩
         ·
          replace c17 := Bool.eq_false_iff.mpr c17
          subst c17
          have H1 : (some false) = some r := by rw [if_neg (show ¬ (false = true) by decide)] at H; exact H
          clear H
          have H := H1
          clear H1
          obtain rfl := Option.some.inj H
          have hcz39_0 := blkc BK235.out 0 (.int .i64 a0_0) rfl
          have hcz39_1 := blkc BK235.out 1 (.slice A0_1 l0_1.length c0_1) rfl
          have hcz39_2 := blkc BK235.out 2 (.slice A0_2 l0_2.length c0_2) rfl
          have hfz39_0 := blk_frozen BK235.out 0
          have hfz39_1 := blk_frozen BK235.out 1
          have hfz39_2 := blk_frozen BK235.out 2
          have p236 : 0 ≤ (x3_2 : Int) := of_decide_eq_true asz
          have q236 : x3_2 < (l0_1.length : Int) := of_decide_eq_true asz
          obtain ⟨ad236, e236, hx236_0, hx236_1⟩ := at_T69 HR0_1.out x3_2 p236 q236
          cases e236
          replace hx236_0 := (HB.out.cell (World.block_lt_of_cell? w _ hx236_0)).trans hx236_0
          replace hx236_1 := (HB.out.cell (World.block_lt_of_cell? w _ hx236_1)).trans hx236_1
          replace p236 := eq_true p236
          replace q236 := eq_true q236
          go_wp2_with (first | ((with_reducible refine gate_dst (N := 4) rfl ?_); (try (refine gate_guard (by rfl) ?_; dsimp only)); refine box_event ?hg (N := 4) ?hd (cs := #[.int .i64 0, .int .i64 0]) (t := 69) ?hr ?_; (case hd => rfl); (case hg => rfl); (case hr => first | (go_simp; done) | (go_simp; rfl)); intro gb237 hg w40 hbox hb; have BK237 := Aside0.mk (hbox); have GW237 := bsz (w := w) hg; have GE237 := GW237; have NB235_237 := neL (g := gb235) hg; have NB237_235 := neR (g := gb235) hg; replace BK235 := Aside0.mk (blk_below (g := gb235) blkz hb); replace HB := Aside0.mk (below_step bel hb); clear hb hbox hg; have hnb41 := NB237_235.out; have hnc41 := NB235_237.out; have hcz42_0 := blkc BK237.out 0 (.int .i64 0) rfl; have hcz42_1 := blkc BK237.out 1 (.int .i64 0) rfl; have hfz42_0 := blk_frozen BK237.out 0; have hfz42_1 := blk_frozen BK237.out 1; have hcz43_0 := blkc BK235.out 0 (.int .i64 a0_0) rfl; have hcz43_1 := blkc BK235.out 1 (.slice (some ad236) l0_1.length c0_1) rfl; have hcz43_2 := blkc BK235.out 2 (.slice A0_2 l0_2.length c0_2) rfl) | ((with_reducible refine gate_callee (f := 58) rfl ?_); refine goesL_ (some 42) rfl rfl Tryd.func58 (by kernel_rfl) rfl #[.agg #[.int .i64 a0_0, .slice (some ad236) l0_1.length c0_1, .slice A0_2 l0_2.length c0_2], .int .i64 ((rd_T69 l0_1 x3_2).f0)] rfl mapz ?_; (with_reducible refine (dropperref05_section.calls a0_0 _ _ l0_1 _ _ l0_2 ((rd_T69 l0_1 x3_2).f0) true _ ?side1 ?side2 ?side3 ?side4 A14.out).mono ?_); (case side1 => exact cbz HR0_1); (case side2 => exact HC0_1.out); (case side3 => exact cbz HR0_2); (case side4 => exact HC0_2.out); rintro e w44 ⟨rfl, hb⟩; refine ⟨_, rfl, ?_⟩; replace BK235 := Aside0.mk (blk_below (g := gb235) (o := .cells #[.int .i64 a0_0, .slice (some ad236) l0_1.length c0_1, .slice A0_2 l0_2.length c0_2] 25 (0, 0)) (by (with_reducible repeat (first | refine blk_drewN ?_ _ | refine blk_drew ?_ | refine blk_alloc ?_ _)); refine blk_far ?_ NB235_237.out _; (with_reducible repeat (first | refine blk_drewN ?_ _ | refine blk_drew ?_ | refine blk_alloc ?_ _)); refine blk_far ?_ NB235_237.out _; (with_reducible repeat (first | refine blk_drewN ?_ _ | refine blk_drew ?_ | refine blk_alloc ?_ _)); exact BK235.out) hb); replace BK237 := Aside0.mk (blk_below (g := gb237) (o := .cells #[.int .i64 ((rd_T69 l0_1 x3_2).f0), .int .i64 ((rd_T69 l0_1 x3_2).f1)] 69 (0, 0)) (by (with_reducible repeat (first | refine blk_drewN ?_ _ | refine blk_drew ?_ | refine blk_alloc ?_ _)); refine blk_put (cs := #[.int .i64 ((rd_T69 l0_1 x3_2).f0), .int .i64 0]) ?_ 1 _ rfl; (with_reducible repeat (first | refine blk_drewN ?_ _ | refine blk_drew ?_ | refine blk_alloc ?_ _)); refine blk_put (cs := #[.int .i64 0, .int .i64 0]) ?_ 0 _ rfl; (with_reducible repeat (first | refine blk_drewN ?_ _ | refine blk_drew ?_ | refine blk_alloc ?_ _)); exact BK237.out) hb); replace HB := Aside0.mk (below_step bel hb); (try clear hb); (try clear hb2); (try clear hk); (try clear hi); have hcz45_0 := blkc BK235.out 0 (.int .i64 a0_0) rfl; have hcz45_1 := blkc BK235.out 1 (.slice (some ad236) l0_1.length c0_1) rfl; have hcz45_2 := blkc BK235.out 2 (.slice A0_2 l0_2.length c0_2) rfl; have hcz46_0 := blkc BK237.out 0 (.int .i64 ((rd_T69 l0_1 x3_2).f0)) rfl; have hcz46_1 := blkc BK237.out 1 (.int .i64 ((rd_T69 l0_1 x3_2).f1)) rfl; have hfz46_0 := blk_frozen BK237.out 0; have hfz46_1 := blk_frozen BK237.out 1) | (go_at_call 58; (with_reducible refine (dropperref05_section.calls a0_0 _ _ l0_1 _ _ l0_2 ((rd_T69 l0_1 x3_2).f1) false _ ?side1 ?side2 ?side3 ?side4 A16.out).mono ?_); (case side1 => exact cbz HR0_1); (case side2 => exact HC0_1.out); (case side3 => exact cbz HR0_2); (case side4 => exact HC0_2.out); rintro e w47 ⟨rfl, hb⟩; replace BK235 := Aside0.mk (blk_below (g := gb235) blkz hb); replace BK237 := Aside0.mk (blk_below (g := gb237) blkz hb); replace HB := Aside0.mk (below_step bel hb); (try clear hb); (try clear hb2); (try clear hk); (try clear hi)))
          go_ret
          exact ⟨ezz, bel⟩
        ·
         replace c15 := Bool.eq_false_iff.mpr c15
         subst c15
         have H1 : (some false) = some r := by rw [if_neg (show ¬ (false = true) by decide)] at H; exact H
         clear H
         have H := H1
         clear H1
         obtain rfl := Option.some.inj H
         have hcz48_0 := blkc BK235.out 0 (.int .i64 a0_0) rfl
         have hcz48_1 := blkc BK235.out 1 (.slice A0_1 l0_1.length c0_1) rfl
         have hcz48_2 := blkc BK235.out 2 (.slice A0_2 l0_2.length c0_2) rfl
         have hfz48_0 := blk_frozen BK235.out 0
         have hfz48_1 := blk_frozen BK235.out 1
         have hfz48_2 := blk_frozen BK235.out 2
         have p236 : 0 ≤ (x3_2 : Int) := of_decide_eq_true asz
         have q236 : x3_2 < (l0_1.length : Int) := of_decide_eq_true asz
         obtain ⟨ad236, e236, hx236_0, hx236_1⟩ := at_T69 HR0_1.out x3_2 p236 q236
         cases e236
         replace hx236_0 := (HB.out.cell (World.block_lt_of_cell? w _ hx236_0)).trans hx236_0
         replace hx236_1 := (HB.out.cell (World.block_lt_of_cell? w _ hx236_1)).trans hx236_1
         replace p236 := eq_true p236
         replace q236 := eq_true q236
         go_wp2_with (first | ((with_reducible refine gate_dst (N := 4) rfl ?_); (try (refine gate_guard (by rfl) ?_; dsimp only)); refine box_event ?hg (N := 4) ?hd (cs := #[.int .i64 0, .int .i64 0]) (t := 69) ?hr ?_; (case hd => rfl); (case hg => rfl); (case hr => first | (go_simp; done) | (go_simp; rfl)); intro gb237 hg w49 hbox hb; have BK237 := Aside0.mk (hbox); have GW237 := bsz (w := w) hg; have GE237 := GW237; have NB235_237 := neL (g := gb235) hg; have NB237_235 := neR (g := gb235) hg; replace BK235 := Aside0.mk (blk_below (g := gb235) blkz hb); replace HB := Aside0.mk (below_step bel hb); clear hb hbox hg; have hnb50 := NB237_235.out; have hnc50 := NB235_237.out; have hcz51_0 := blkc BK237.out 0 (.int .i64 0) rfl; have hcz51_1 := blkc BK237.out 1 (.int .i64 0) rfl; have hfz51_0 := blk_frozen BK237.out 0; have hfz51_1 := blk_frozen BK237.out 1; have hcz52_0 := blkc BK235.out 0 (.int .i64 a0_0) rfl; have hcz52_1 := blkc BK235.out 1 (.slice (some ad236) l0_1.length c0_1) rfl; have hcz52_2 := blkc BK235.out 2 (.slice A0_2 l0_2.length c0_2) rfl) | ((with_reducible refine gate_callee (f := 58) rfl ?_); refine goesL_ (some 42) rfl rfl Tryd.func58 (by kernel_rfl) rfl #[.agg #[.int .i64 a0_0, .slice (some ad236) l0_1.length c0_1, .slice A0_2 l0_2.length c0_2], .int .i64 ((rd_T69 l0_1 x3_2).f0)] rfl mapz ?_; (with_reducible refine (dropperref05_section.calls a0_0 _ _ l0_1 _ _ l0_2 ((rd_T69 l0_1 x3_2).f0) false _ ?side1 ?side2 ?side3 ?side4 A14.out).mono ?_); (case side1 => exact cbz HR0_1); (case side2 => exact HC0_1.out); (case side3 => exact cbz HR0_2); (case side4 => exact HC0_2.out); rintro e w53 ⟨rfl, hb⟩; refine ⟨_, rfl, ?_⟩; replace BK235 := Aside0.mk (blk_below (g := gb235) (o := .cells #[.int .i64 a0_0, .slice (some ad236) l0_1.length c0_1, .slice A0_2 l0_2.length c0_2] 25 (0, 0)) (by (with_reducible repeat (first | refine blk_drewN ?_ _ | refine blk_drew ?_ | refine blk_alloc ?_ _)); refine blk_far ?_ NB235_237.out _; (with_reducible repeat (first | refine blk_drewN ?_ _ | refine blk_drew ?_ | refine blk_alloc ?_ _)); refine blk_far ?_ NB235_237.out _; (with_reducible repeat (first | refine blk_drewN ?_ _ | refine blk_drew ?_ | refine blk_alloc ?_ _)); exact BK235.out) hb); replace BK237 := Aside0.mk (blk_below (g := gb237) (o := .cells #[.int .i64 ((rd_T69 l0_1 x3_2).f0), .int .i64 ((rd_T69 l0_1 x3_2).f1)] 69 (0, 0)) (by (with_reducible repeat (first | refine blk_drewN ?_ _ | refine blk_drew ?_ | refine blk_alloc ?_ _)); refine blk_put (cs := #[.int .i64 ((rd_T69 l0_1 x3_2).f0), .int .i64 0]) ?_ 1 _ rfl; (with_reducible repeat (first | refine blk_drewN ?_ _ | refine blk_drew ?_ | refine blk_alloc ?_ _)); refine blk_put (cs := #[.int .i64 0, .int .i64 0]) ?_ 0 _ rfl; (with_reducible repeat (first | refine blk_drewN ?_ _ | refine blk_drew ?_ | refine blk_alloc ?_ _)); exact BK237.out) hb); replace HB := Aside0.mk (below_step bel hb); (try clear hb); (try clear hb2); (try clear hk); (try clear hi)))
         go_ret
         exact ⟨ezz, bel⟩
       ·
        rw [if_neg c13] at H
        exact absurd H (by simp)
      ·
       rw [if_neg c12] at H
       have c12b0 : decide (x3_2 < (l0_1.length : Int)) = false := decide_eq_false c12
       clear c12
       have H' := Aside0.mk H
       clear H
       have hcz54_0 := blkc BK235.out 0 (.int .i64 a0_0) rfl
       have hcz54_1 := blkc BK235.out 1 (.slice A0_1 l0_1.length c0_1) rfl
       have hcz54_2 := blkc BK235.out 2 (.slice A0_2 l0_2.length c0_2) rfl
       have hfz54_0 := blk_frozen BK235.out 0
       have hfz54_1 := blk_frozen BK235.out 1
       have hfz54_2 := blk_frozen BK235.out 2
       go_wp2
       go_loopg [5] k2 (fun kq v5 w' => ∃ (x5_3 : Int), v5 = .int .i64 x5_3 ∧ Aside0 (dropperref05_Valid.l1 kq x5_3 a0_0 l0_1 l0_2 = some r) ∧ Aside0 (kq ≤ k2) ∧ Aside0 (w'.heap[gb235]? = some (.cells #[.int .i64 a0_0, (.slice A0_1 l0_1.length c0_1), (.slice A0_2 l0_2.length c0_2)] 25 (0, 0))) ∧ Aside0 (Below w.heap.size w w'))
       case atStart => exact ⟨(0), rsz, H', ⟨Nat.le_refl _⟩, ⟨blkz⟩, ⟨bel⟩⟩
       case round =>
        clear H'
        try clear c1
        try clear c2
        try clear p2
        try clear q2
        try clear hx2
        try clear c3
        try clear c4
        try clear c4b0
        try clear c5
        try clear c6
        try clear c6b0
        try clear p6
        try clear c8
        try clear c8b0
        try clear c8b1
        try clear c11
        try clear c12
        try clear c12b0
        try clear c13
        try clear c13b0
        try clear c15
        try clear c17
        try clear c18
        try clear c18b0
        try clear c18b1
        try clear c20
        try clear c21
        try clear p23
        try clear q23
        try clear hx23
        try clear c31
        try clear c41
        try clear c50
        try clear hcz10_0
        try clear hcz10_1
        try clear hcz10_2
        try clear hcz19_0
        try clear hcz19_1
        try clear hcz19_2
        try clear hcz22_0
        try clear hcz22_1
        try clear hcz23_0
        try clear hcz23_1
        try clear hcz23_2
        try clear hcz25_0
        try clear hcz25_1
        try clear hcz25_2
        try clear hcz26_0
        try clear hcz26_1
        try clear hcz28_0
        try clear hcz28_1
        try clear hcz29_0
        try clear hcz29_1
        try clear hcz29_2
        try clear hcz32_0
        try clear hcz32_1
        try clear hcz33_0
        try clear hcz33_1
        try clear hcz33_2
        try clear hcz35_0
        try clear hcz35_1
        try clear hcz35_2
        try clear hcz36_0
        try clear hcz36_1
        try clear hcz38_0
        try clear hcz38_1
        try clear hcz39_0
        try clear hcz39_1
        try clear hcz39_2
        try clear hcz42_0
        try clear hcz42_1
        try clear hcz43_0
        try clear hcz43_1
        try clear hcz43_2
        try clear hcz45_0
        try clear hcz45_1
        try clear hcz45_2
        try clear hcz46_0
        try clear hcz46_1
        try clear hcz48_0
        try clear hcz48_1
        try clear hcz48_2
        try clear hcz51_0
        try clear hcz51_1
        try clear hcz52_0
        try clear hcz52_1
        try clear hcz52_2
        try clear hcz54_0
        try clear hcz54_1
        try clear hcz54_2
        try clear hcz5_0
        try clear hcz5_1
        try clear hcz5_2
        try clear hcz7_0
        try clear hcz7_1
        try clear hcz7_2
        try clear hcz9_0
        try clear hcz9_1
        try clear hcz9_2
        try clear hfz10_0
        try clear hfz10_1
        try clear hfz10_2
        try clear hfz19_0
        try clear hfz19_1
        try clear hfz19_2
        try clear hfz22_0
        try clear hfz22_1
        try clear hfz23_0
        try clear hfz23_1
        try clear hfz23_2
        try clear hfz25_0
        try clear hfz25_1
        try clear hfz25_2
        try clear hfz26_0
        try clear hfz26_1
        try clear hfz28_0
        try clear hfz28_1
        try clear hfz29_0
        try clear hfz29_1
        try clear hfz29_2
        try clear hfz32_0
        try clear hfz32_1
        try clear hfz33_0
        try clear hfz33_1
        try clear hfz33_2
        try clear hfz35_0
        try clear hfz35_1
        try clear hfz35_2
        try clear hfz36_0
        try clear hfz36_1
        try clear hfz38_0
        try clear hfz38_1
        try clear hfz39_0
        try clear hfz39_1
        try clear hfz39_2
        try clear hfz42_0
        try clear hfz42_1
        try clear hfz43_0
        try clear hfz43_1
        try clear hfz43_2
        try clear hfz45_0
        try clear hfz45_1
        try clear hfz45_2
        try clear hfz46_0
        try clear hfz46_1
        try clear hfz48_0
        try clear hfz48_1
        try clear hfz48_2
        try clear hfz51_0
        try clear hfz51_1
        try clear hfz52_0
        try clear hfz52_1
        try clear hfz52_2
        try clear hfz54_0
        try clear hfz54_1
        try clear hfz54_2
        try clear hfz5_0
        try clear hfz5_1
        try clear hfz5_2
        try clear hfz7_0
        try clear hfz7_1
        try clear hfz7_2
        try clear hfz9_0
        try clear hfz9_1
        try clear hfz9_2
        try clear hx236_0
        try clear hx236_1
        try clear p2
        try clear p236
        try clear q236
        obtain ⟨x5_3, rfl, HA, HK3, BK235, HB⟩ := hrel
        cases gk with
        | zero => exact absurd HA.out (by simp [dropperref05_Valid.l1])
        | succ k3 =>
         have H := HA.out
         clear HA
         simp only [dropperref05_Valid.l1] at H
         by_cases c55 : x5_3 < (l0_2.length : Int)
         ·
          rw [if_pos c55] at H
          have c55b0 : decide (x5_3 < (l0_2.length : Int)) = true := decide_eq_true c55
          clear c55
          by_cases c56 : 0 ≤ x5_3
          ·
           rw [if_pos c56] at H
           have c56b0 : decide (0 ≤ x5_3) = true := decide_eq_true c56
           clear c56
           replace H := Option.bind_eq_some_iff.mp H
           obtain ⟨t242, A570, H⟩ := H
           replace H : (if t242 = true then (if ((rd_T71 l0_2 x5_3).f1) < 1 then (some false) else (if ((rd_T71 l0_2 x5_3).f1) > 3 then (some false) else (dropperref05_Valid.l1 k3 (wrap64 (x5_3 + 1)) a0_0 l0_1 l0_2))) else (some false)) = some r := H
           have A57 := Aside0.mk A570
           clear A570
           by_cases c58 : t242 = true
           ·
            subst c58
            have H1 : (if ((rd_T71 l0_2 x5_3).f1) < 1 then (some false) else (if ((rd_T71 l0_2 x5_3).f1) > 3 then (some false) else (dropperref05_Valid.l1 k3 (wrap64 (x5_3 + 1)) a0_0 l0_1 l0_2))) = some r := by rw [if_pos rfl] at H; exact H
            clear H
            have H := H1
            clear H1
            by_cases c59 : ((rd_T71 l0_2 x5_3).f1) < 1
            ·
             rw [if_pos c59] at H
             have c59b0 : decide (((rd_T71 l0_2 x5_3).f1) < 1) = true := decide_eq_true c59
             clear c59
             obtain rfl := Option.some.inj H
             have hcz60_0 := blkc BK235.out 0 (.int .i64 a0_0) rfl
             have hcz60_1 := blkc BK235.out 1 (.slice A0_1 l0_1.length c0_1) rfl
             have hcz60_2 := blkc BK235.out 2 (.slice A0_2 l0_2.length c0_2) rfl
             have hfz60_0 := blk_frozen BK235.out 0
             have hfz60_1 := blk_frozen BK235.out 1
             have hfz60_2 := blk_frozen BK235.out 2
             have p240 : 0 ≤ (x5_3 : Int) := of_decide_eq_true asz
             have q240 : x5_3 < (l0_2.length : Int) := of_decide_eq_true asz
             obtain ⟨ad240, e240, hx240_0, hx240_1⟩ := at_T71 HR0_2.out x5_3 p240 q240
             cases e240
             replace hx240_0 := (HB.out.cell (World.block_lt_of_cell? w _ hx240_0)).trans hx240_0
             replace hx240_1 := (HB.out.cell (World.block_lt_of_cell? w _ hx240_1)).trans hx240_1
             replace p240 := eq_true p240
             replace q240 := eq_true q240
             go_wp2_with (first | ((with_reducible refine gate_dst (N := 6) rfl ?_); (try (refine gate_guard (by rfl) ?_; dsimp only)); refine box_event ?hg (N := 6) ?hd (cs := #[.int .i64 0, .int .i64 0]) (t := 71) ?hr ?_; (case hd => rfl); (case hg => rfl); (case hr => first | (go_simp; done) | (go_simp; rfl)); intro gb241 hg w61 hbox hb; have BK241 := Aside0.mk (hbox); have GW241 := bsz (w := w) hg; have GE241 := GW241; have NB235_241 := neL (g := gb235) hg; have NB241_235 := neR (g := gb235) hg; replace BK235 := Aside0.mk (blk_below (g := gb235) blkz hb); replace HB := Aside0.mk (below_step bel hb); clear hb hbox hg; have hnb62 := NB241_235.out; have hnc62 := NB235_241.out; have hcz63_0 := blkc BK241.out 0 (.int .i64 0) rfl; have hcz63_1 := blkc BK241.out 1 (.int .i64 0) rfl; have hfz63_0 := blk_frozen BK241.out 0; have hfz63_1 := blk_frozen BK241.out 1; have hcz64_0 := blkc BK235.out 0 (.int .i64 a0_0) rfl; have hcz64_1 := blkc BK235.out 1 (.slice A0_1 l0_1.length c0_1) rfl; have hcz64_2 := blkc BK235.out 2 (.slice (some ad240) l0_2.length c0_2) rfl) | ((with_reducible refine gate_callee (f := 58) rfl ?_); refine goesL_ (some 73) rfl rfl Tryd.func58 (by kernel_rfl) rfl #[.agg #[.int .i64 a0_0, .slice A0_1 l0_1.length c0_1, .slice (some ad240) l0_2.length c0_2], .int .i64 ((rd_T71 l0_2 x5_3).f0)] rfl mapz ?_; (with_reducible refine (dropperref05_section.calls a0_0 _ _ l0_1 _ _ l0_2 ((rd_T71 l0_2 x5_3).f0) true _ ?side1 ?side2 ?side3 ?side4 A57.out).mono ?_); (case side1 => exact cbz HR0_1); (case side2 => exact HC0_1.out); (case side3 => exact cbz HR0_2); (case side4 => exact HC0_2.out); rintro e w65 ⟨rfl, hb⟩; refine ⟨_, rfl, ?_⟩; replace BK235 := Aside0.mk (blk_below (g := gb235) (o := .cells #[.int .i64 a0_0, .slice A0_1 l0_1.length c0_1, .slice (some ad240) l0_2.length c0_2] 25 (0, 0)) (by (with_reducible repeat (first | refine blk_drewN ?_ _ | refine blk_drew ?_ | refine blk_alloc ?_ _)); refine blk_far ?_ NB235_241.out _; (with_reducible repeat (first | refine blk_drewN ?_ _ | refine blk_drew ?_ | refine blk_alloc ?_ _)); refine blk_far ?_ NB235_241.out _; (with_reducible repeat (first | refine blk_drewN ?_ _ | refine blk_drew ?_ | refine blk_alloc ?_ _)); exact BK235.out) hb); replace BK241 := Aside0.mk (blk_below (g := gb241) (o := .cells #[.int .i64 ((rd_T71 l0_2 x5_3).f0), .int .i64 ((rd_T71 l0_2 x5_3).f1)] 71 (0, 0)) (by (with_reducible repeat (first | refine blk_drewN ?_ _ | refine blk_drew ?_ | refine blk_alloc ?_ _)); refine blk_put (cs := #[.int .i64 ((rd_T71 l0_2 x5_3).f0), .int .i64 0]) ?_ 1 _ rfl; (with_reducible repeat (first | refine blk_drewN ?_ _ | refine blk_drew ?_ | refine blk_alloc ?_ _)); refine blk_put (cs := #[.int .i64 0, .int .i64 0]) ?_ 0 _ rfl; (with_reducible repeat (first | refine blk_drewN ?_ _ | refine blk_drew ?_ | refine blk_alloc ?_ _)); exact BK241.out) hb); replace HB := Aside0.mk (below_step bel hb); (try clear hb); (try clear hb2); (try clear hk); (try clear hi); have hcz66_0 := blkc BK241.out 0 (.int .i64 ((rd_T71 l0_2 x5_3).f0)) rfl; have hcz66_1 := blkc BK241.out 1 (.int .i64 ((rd_T71 l0_2 x5_3).f1)) rfl; have hfz66_0 := blk_frozen BK241.out 0; have hfz66_1 := blk_frozen BK241.out 1))
             go_ret
             exact ⟨ezz, bel⟩
            ·
             rw [if_neg c59] at H
             have c59b0 : decide (((rd_T71 l0_2 x5_3).f1) < 1) = false := decide_eq_false c59
             clear c59
             by_cases c67 : ((rd_T71 l0_2 x5_3).f1) > 3
             ·
              rw [if_pos c67] at H
              have c67b0 : decide (3 < ((rd_T71 l0_2 x5_3).f1)) = true := decide_eq_true c67
              clear c67
              obtain rfl := Option.some.inj H
              have hcz68_0 := blkc BK235.out 0 (.int .i64 a0_0) rfl
              have hcz68_1 := blkc BK235.out 1 (.slice A0_1 l0_1.length c0_1) rfl
              have hcz68_2 := blkc BK235.out 2 (.slice A0_2 l0_2.length c0_2) rfl
              have hfz68_0 := blk_frozen BK235.out 0
              have hfz68_1 := blk_frozen BK235.out 1
              have hfz68_2 := blk_frozen BK235.out 2
              have p240 : 0 ≤ (x5_3 : Int) := of_decide_eq_true asz
              have q240 : x5_3 < (l0_2.length : Int) := of_decide_eq_true asz
              obtain ⟨ad240, e240, hx240_0, hx240_1⟩ := at_T71 HR0_2.out x5_3 p240 q240
              cases e240
              replace hx240_0 := (HB.out.cell (World.block_lt_of_cell? w _ hx240_0)).trans hx240_0
              replace hx240_1 := (HB.out.cell (World.block_lt_of_cell? w _ hx240_1)).trans hx240_1
              replace p240 := eq_true p240
              replace q240 := eq_true q240
              go_wp2_with (first | ((with_reducible refine gate_dst (N := 6) rfl ?_); (try (refine gate_guard (by rfl) ?_; dsimp only)); refine box_event ?hg (N := 6) ?hd (cs := #[.int .i64 0, .int .i64 0]) (t := 71) ?hr ?_; (case hd => rfl); (case hg => rfl); (case hr => first | (go_simp; done) | (go_simp; rfl)); intro gb241 hg w69 hbox hb; have BK241 := Aside0.mk (hbox); have GW241 := bsz (w := w) hg; have GE241 := GW241; have NB235_241 := neL (g := gb235) hg; have NB241_235 := neR (g := gb235) hg; replace BK235 := Aside0.mk (blk_below (g := gb235) blkz hb); replace HB := Aside0.mk (below_step bel hb); clear hb hbox hg; have hnb70 := NB241_235.out; have hnc70 := NB235_241.out; have hcz71_0 := blkc BK241.out 0 (.int .i64 0) rfl; have hcz71_1 := blkc BK241.out 1 (.int .i64 0) rfl; have hfz71_0 := blk_frozen BK241.out 0; have hfz71_1 := blk_frozen BK241.out 1; have hcz72_0 := blkc BK235.out 0 (.int .i64 a0_0) rfl; have hcz72_1 := blkc BK235.out 1 (.slice A0_1 l0_1.length c0_1) rfl; have hcz72_2 := blkc BK235.out 2 (.slice (some ad240) l0_2.length c0_2) rfl) | ((with_reducible refine gate_callee (f := 58) rfl ?_); refine goesL_ (some 73) rfl rfl Tryd.func58 (by kernel_rfl) rfl #[.agg #[.int .i64 a0_0, .slice A0_1 l0_1.length c0_1, .slice (some ad240) l0_2.length c0_2], .int .i64 ((rd_T71 l0_2 x5_3).f0)] rfl mapz ?_; (with_reducible refine (dropperref05_section.calls a0_0 _ _ l0_1 _ _ l0_2 ((rd_T71 l0_2 x5_3).f0) true _ ?side1 ?side2 ?side3 ?side4 A57.out).mono ?_); (case side1 => exact cbz HR0_1); (case side2 => exact HC0_1.out); (case side3 => exact cbz HR0_2); (case side4 => exact HC0_2.out); rintro e w73 ⟨rfl, hb⟩; refine ⟨_, rfl, ?_⟩; replace BK235 := Aside0.mk (blk_below (g := gb235) (o := .cells #[.int .i64 a0_0, .slice A0_1 l0_1.length c0_1, .slice (some ad240) l0_2.length c0_2] 25 (0, 0)) (by (with_reducible repeat (first | refine blk_drewN ?_ _ | refine blk_drew ?_ | refine blk_alloc ?_ _)); refine blk_far ?_ NB235_241.out _; (with_reducible repeat (first | refine blk_drewN ?_ _ | refine blk_drew ?_ | refine blk_alloc ?_ _)); refine blk_far ?_ NB235_241.out _; (with_reducible repeat (first | refine blk_drewN ?_ _ | refine blk_drew ?_ | refine blk_alloc ?_ _)); exact BK235.out) hb); replace BK241 := Aside0.mk (blk_below (g := gb241) (o := .cells #[.int .i64 ((rd_T71 l0_2 x5_3).f0), .int .i64 ((rd_T71 l0_2 x5_3).f1)] 71 (0, 0)) (by (with_reducible repeat (first | refine blk_drewN ?_ _ | refine blk_drew ?_ | refine blk_alloc ?_ _)); refine blk_put (cs := #[.int .i64 ((rd_T71 l0_2 x5_3).f0), .int .i64 0]) ?_ 1 _ rfl; (with_reducible repeat (first | refine blk_drewN ?_ _ | refine blk_drew ?_ | refine blk_alloc ?_ _)); refine blk_put (cs := #[.int .i64 0, .int .i64 0]) ?_ 0 _ rfl; (with_reducible repeat (first | refine blk_drewN ?_ _ | refine blk_drew ?_ | refine blk_alloc ?_ _)); exact BK241.out) hb); replace HB := Aside0.mk (below_step bel hb); (try clear hb); (try clear hb2); (try clear hk); (try clear hi); have hcz74_0 := blkc BK241.out 0 (.int .i64 ((rd_T71 l0_2 x5_3).f0)) rfl; have hcz74_1 := blkc BK241.out 1 (.int .i64 ((rd_T71 l0_2 x5_3).f1)) rfl; have hfz74_0 := blk_frozen BK241.out 0; have hfz74_1 := blk_frozen BK241.out 1))
              go_ret
              exact ⟨ezz, bel⟩
             ·
              rw [if_neg c67] at H
              have c67b0 : decide (3 < ((rd_T71 l0_2 x5_3).f1)) = false := decide_eq_false c67
              clear c67
              have H' := Aside0.mk H
              clear H
              have hcz75_0 := blkc BK235.out 0 (.int .i64 a0_0) rfl
              have hcz75_1 := blkc BK235.out 1 (.slice A0_1 l0_1.length c0_1) rfl
              have hcz75_2 := blkc BK235.out 2 (.slice A0_2 l0_2.length c0_2) rfl
              have hfz75_0 := blk_frozen BK235.out 0
              have hfz75_1 := blk_frozen BK235.out 1
              have hfz75_2 := blk_frozen BK235.out 2
              have p240 : 0 ≤ (x5_3 : Int) := of_decide_eq_true asz
              have q240 : x5_3 < (l0_2.length : Int) := of_decide_eq_true asz
              obtain ⟨ad240, e240, hx240_0, hx240_1⟩ := at_T71 HR0_2.out x5_3 p240 q240
              cases e240
              replace hx240_0 := (HB.out.cell (World.block_lt_of_cell? w _ hx240_0)).trans hx240_0
              replace hx240_1 := (HB.out.cell (World.block_lt_of_cell? w _ hx240_1)).trans hx240_1
              replace p240 := eq_true p240
              replace q240 := eq_true q240
              go_wp2_with (first | ((with_reducible refine gate_dst (N := 6) rfl ?_); (try (refine gate_guard (by rfl) ?_; dsimp only)); refine box_event ?hg (N := 6) ?hd (cs := #[.int .i64 0, .int .i64 0]) (t := 71) ?hr ?_; (case hd => rfl); (case hg => rfl); (case hr => first | (go_simp; done) | (go_simp; rfl)); intro gb241 hg w76 hbox hb; have BK241 := Aside0.mk (hbox); have GW241 := bsz (w := w) hg; have GE241 := GW241; have NB235_241 := neL (g := gb235) hg; have NB241_235 := neR (g := gb235) hg; replace BK235 := Aside0.mk (blk_below (g := gb235) blkz hb); replace HB := Aside0.mk (below_step bel hb); clear hb hbox hg; have hnb77 := NB241_235.out; have hnc77 := NB235_241.out; have hcz78_0 := blkc BK241.out 0 (.int .i64 0) rfl; have hcz78_1 := blkc BK241.out 1 (.int .i64 0) rfl; have hfz78_0 := blk_frozen BK241.out 0; have hfz78_1 := blk_frozen BK241.out 1; have hcz79_0 := blkc BK235.out 0 (.int .i64 a0_0) rfl; have hcz79_1 := blkc BK235.out 1 (.slice A0_1 l0_1.length c0_1) rfl; have hcz79_2 := blkc BK235.out 2 (.slice (some ad240) l0_2.length c0_2) rfl) | ((with_reducible refine gate_callee (f := 58) rfl ?_); refine goesL_ (some 73) rfl rfl Tryd.func58 (by kernel_rfl) rfl #[.agg #[.int .i64 a0_0, .slice A0_1 l0_1.length c0_1, .slice (some ad240) l0_2.length c0_2], .int .i64 ((rd_T71 l0_2 x5_3).f0)] rfl mapz ?_; (with_reducible refine (dropperref05_section.calls a0_0 _ _ l0_1 _ _ l0_2 ((rd_T71 l0_2 x5_3).f0) true _ ?side1 ?side2 ?side3 ?side4 A57.out).mono ?_); (case side1 => exact cbz HR0_1); (case side2 => exact HC0_1.out); (case side3 => exact cbz HR0_2); (case side4 => exact HC0_2.out); rintro e w80 ⟨rfl, hb⟩; refine ⟨_, rfl, ?_⟩; replace BK235 := Aside0.mk (blk_below (g := gb235) (o := .cells #[.int .i64 a0_0, .slice A0_1 l0_1.length c0_1, .slice (some ad240) l0_2.length c0_2] 25 (0, 0)) (by (with_reducible repeat (first | refine blk_drewN ?_ _ | refine blk_drew ?_ | refine blk_alloc ?_ _)); refine blk_far ?_ NB235_241.out _; (with_reducible repeat (first | refine blk_drewN ?_ _ | refine blk_drew ?_ | refine blk_alloc ?_ _)); refine blk_far ?_ NB235_241.out _; (with_reducible repeat (first | refine blk_drewN ?_ _ | refine blk_drew ?_ | refine blk_alloc ?_ _)); exact BK235.out) hb); replace BK241 := Aside0.mk (blk_below (g := gb241) (o := .cells #[.int .i64 ((rd_T71 l0_2 x5_3).f0), .int .i64 ((rd_T71 l0_2 x5_3).f1)] 71 (0, 0)) (by (with_reducible repeat (first | refine blk_drewN ?_ _ | refine blk_drew ?_ | refine blk_alloc ?_ _)); refine blk_put (cs := #[.int .i64 ((rd_T71 l0_2 x5_3).f0), .int .i64 0]) ?_ 1 _ rfl; (with_reducible repeat (first | refine blk_drewN ?_ _ | refine blk_drew ?_ | refine blk_alloc ?_ _)); refine blk_put (cs := #[.int .i64 0, .int .i64 0]) ?_ 0 _ rfl; (with_reducible repeat (first | refine blk_drewN ?_ _ | refine blk_drew ?_ | refine blk_alloc ?_ _)); exact BK241.out) hb); replace HB := Aside0.mk (below_step bel hb); (try clear hb); (try clear hb2); (try clear hk); (try clear hi); have hcz81_0 := blkc BK241.out 0 (.int .i64 ((rd_T71 l0_2 x5_3).f0)) rfl; have hcz81_1 := blkc BK241.out 1 (.int .i64 ((rd_T71 l0_2 x5_3).f1)) rfl; have hfz81_0 := blk_frozen BK241.out 0; have hfz81_1 := blk_frozen BK241.out 1))
              go_roundg k3
              case measure => have := HJ1.out; have := HK2.out; have := HK3.out; omega
              case rel => exact ⟨(wrap64 (x5_3 + 1)), rsz, H', ⟨by have := HJ1.out; have := HK2.out; have := HK3.out; omega⟩, ⟨blkz⟩, ⟨bel⟩⟩
           ·
            replace c58 := Bool.eq_false_iff.mpr c58
            subst c58
            have H1 : (some false) = some r := by rw [if_neg (show ¬ (false = true) by decide)] at H; exact H
            clear H
            have H := H1
            clear H1
            obtain rfl := Option.some.inj H
            have hcz82_0 := blkc BK235.out 0 (.int .i64 a0_0) rfl
            have hcz82_1 := blkc BK235.out 1 (.slice A0_1 l0_1.length c0_1) rfl
            have hcz82_2 := blkc BK235.out 2 (.slice A0_2 l0_2.length c0_2) rfl
            have hfz82_0 := blk_frozen BK235.out 0
            have hfz82_1 := blk_frozen BK235.out 1
            have hfz82_2 := blk_frozen BK235.out 2
            have p240 : 0 ≤ (x5_3 : Int) := of_decide_eq_true asz
            have q240 : x5_3 < (l0_2.length : Int) := of_decide_eq_true asz
            obtain ⟨ad240, e240, hx240_0, hx240_1⟩ := at_T71 HR0_2.out x5_3 p240 q240
            cases e240
            replace hx240_0 := (HB.out.cell (World.block_lt_of_cell? w _ hx240_0)).trans hx240_0
            replace hx240_1 := (HB.out.cell (World.block_lt_of_cell? w _ hx240_1)).trans hx240_1
            replace p240 := eq_true p240
            replace q240 := eq_true q240
            go_wp2_with (first | ((with_reducible refine gate_dst (N := 6) rfl ?_); (try (refine gate_guard (by rfl) ?_; dsimp only)); refine box_event ?hg (N := 6) ?hd (cs := #[.int .i64 0, .int .i64 0]) (t := 71) ?hr ?_; (case hd => rfl); (case hg => rfl); (case hr => first | (go_simp; done) | (go_simp; rfl)); intro gb241 hg w83 hbox hb; have BK241 := Aside0.mk (hbox); have GW241 := bsz (w := w) hg; have GE241 := GW241; have NB235_241 := neL (g := gb235) hg; have NB241_235 := neR (g := gb235) hg; replace BK235 := Aside0.mk (blk_below (g := gb235) blkz hb); replace HB := Aside0.mk (below_step bel hb); clear hb hbox hg; have hnb84 := NB241_235.out; have hnc84 := NB235_241.out; have hcz85_0 := blkc BK241.out 0 (.int .i64 0) rfl; have hcz85_1 := blkc BK241.out 1 (.int .i64 0) rfl; have hfz85_0 := blk_frozen BK241.out 0; have hfz85_1 := blk_frozen BK241.out 1; have hcz86_0 := blkc BK235.out 0 (.int .i64 a0_0) rfl; have hcz86_1 := blkc BK235.out 1 (.slice A0_1 l0_1.length c0_1) rfl; have hcz86_2 := blkc BK235.out 2 (.slice (some ad240) l0_2.length c0_2) rfl) | ((with_reducible refine gate_callee (f := 58) rfl ?_); refine goesL_ (some 73) rfl rfl Tryd.func58 (by kernel_rfl) rfl #[.agg #[.int .i64 a0_0, .slice A0_1 l0_1.length c0_1, .slice (some ad240) l0_2.length c0_2], .int .i64 ((rd_T71 l0_2 x5_3).f0)] rfl mapz ?_; (with_reducible refine (dropperref05_section.calls a0_0 _ _ l0_1 _ _ l0_2 ((rd_T71 l0_2 x5_3).f0) false _ ?side1 ?side2 ?side3 ?side4 A57.out).mono ?_); (case side1 => exact cbz HR0_1); (case side2 => exact HC0_1.out); (case side3 => exact cbz HR0_2); (case side4 => exact HC0_2.out); rintro e w87 ⟨rfl, hb⟩; refine ⟨_, rfl, ?_⟩; replace BK235 := Aside0.mk (blk_below (g := gb235) (o := .cells #[.int .i64 a0_0, .slice A0_1 l0_1.length c0_1, .slice (some ad240) l0_2.length c0_2] 25 (0, 0)) (by (with_reducible repeat (first | refine blk_drewN ?_ _ | refine blk_drew ?_ | refine blk_alloc ?_ _)); refine blk_far ?_ NB235_241.out _; (with_reducible repeat (first | refine blk_drewN ?_ _ | refine blk_drew ?_ | refine blk_alloc ?_ _)); refine blk_far ?_ NB235_241.out _; (with_reducible repeat (first | refine blk_drewN ?_ _ | refine blk_drew ?_ | refine blk_alloc ?_ _)); exact BK235.out) hb); replace BK241 := Aside0.mk (blk_below (g := gb241) (o := .cells #[.int .i64 ((rd_T71 l0_2 x5_3).f0), .int .i64 ((rd_T71 l0_2 x5_3).f1)] 71 (0, 0)) (by (with_reducible repeat (first | refine blk_drewN ?_ _ | refine blk_drew ?_ | refine blk_alloc ?_ _)); refine blk_put (cs := #[.int .i64 ((rd_T71 l0_2 x5_3).f0), .int .i64 0]) ?_ 1 _ rfl; (with_reducible repeat (first | refine blk_drewN ?_ _ | refine blk_drew ?_ | refine blk_alloc ?_ _)); refine blk_put (cs := #[.int .i64 0, .int .i64 0]) ?_ 0 _ rfl; (with_reducible repeat (first | refine blk_drewN ?_ _ | refine blk_drew ?_ | refine blk_alloc ?_ _)); exact BK241.out) hb); replace HB := Aside0.mk (below_step bel hb); (try clear hb); (try clear hb2); (try clear hk); (try clear hi)))
            go_ret
            exact ⟨ezz, bel⟩
          ·
           rw [if_neg c56] at H
           exact absurd H (by simp)
         ·
          rw [if_neg c55] at H
          have c55b0 : decide (x5_3 < (l0_2.length : Int)) = false := decide_eq_false c55
          clear c55
          obtain rfl := Option.some.inj H
          have hcz88_0 := blkc BK235.out 0 (.int .i64 a0_0) rfl
          have hcz88_1 := blkc BK235.out 1 (.slice A0_1 l0_1.length c0_1) rfl
          have hcz88_2 := blkc BK235.out 2 (.slice A0_2 l0_2.length c0_2) rfl
          have hfz88_0 := blk_frozen BK235.out 0
          have hfz88_1 := blk_frozen BK235.out 1
          have hfz88_2 := blk_frozen BK235.out 2
          go_wp2
          go_ret
          exact ⟨ezz, bel⟩

/-! ### dropperref05_IsState: function 76 -/
def dropperref05_IsState.f (a0_0 : Int) (l0_1 : List (S69)) (l0_2 : List (S71)) (a1 : Int) : Option (Bool) := if a1 ≥ 0 then (some (decide (a1 < (shl .i64 1 (l0_1.length : Int))))) else (some false)
set_option maxHeartbeats 8000000 in
set_option maxRecDepth 100000 in
theorem dropperref05_IsState.calls (a0_0 : Int) (A0_1 : Option Addr) (c0_1 : Nat) (l0_1 : List (S69)) (A0_2 : Option Addr) (c0_2 : Nat) (l0_2 : List (S71)) (a1 : Int) (r : Bool) (w : World) (hr0_1 : Kd.C k69 w A0_1 l0_1.length l0_1) (hc0_1 : l0_1.length ≤ c0_1) (hr0_2 : Kd.C k71 w A0_2 l0_2.length l0_2) (hc0_2 : l0_2.length ≤ c0_2) (h : dropperref05_IsState.f a0_0 l0_1 l0_2 a1 = some r) :
  Calls Tryd.prog 76 #[.agg #[.int .i64 a0_0, .slice A0_1 l0_1.length c0_1, .slice A0_2 l0_2.length c0_2], .int .i64 a1] w fun e w' => e = .returned (.bool r) ∧ Below w.heap.size w w' := by
 have hu25 := Tryd.underlying25
 have HR0_1 := Aside0.mk hr0_1
 have HC0_1 := Aside0.mk hc0_1
 clear hr0_1 hc0_1
 have HR0_2 := Aside0.mk hr0_2
 have HC0_2 := Aside0.mk hc0_2
 clear hr0_2 hc0_2
 have HB := Aside0.mk (Below.refl w.heap.size w)
 have H : (if a1 ≥ 0 then (some (decide (a1 < (shl .i64 1 (l0_1.length : Int))))) else (some false)) = some r := h
 clear h
 by_cases c3 : a1 ≥ 0
 ·
  rw [if_pos c3] at H
  have c3b0 : decide (0 ≤ a1) = true := decide_eq_true c3
  clear c3
  obtain ⟨ji4, hji4⟩ : ∃ j_ : Int, (shl .i64 1 (l0_1.length : Int)) = j_ := ⟨_, rfl⟩
  replace H : (some (decide (a1 < (ji4)))) = some r := by first | (rw [hji4] at H; exact H) | (simp only [hji4] at H ⊢; exact H)
  have hji4_ : (IntKind.i64.wrap (1 * 2 ^ min (l0_1.length : Int).toNat 64)) = ji4 := hji4
  have hji4z : (l0_1.length : Int) ≤ 64 → (IntKind.i64.wrap (1 * 2 ^ (l0_1.length : Int).toNat)) = ji4 := shl_small hji4
  have hji4p : (IntKind.i64.wrap (1 * 2 ^ min l0_1.length 64)) = ji4 := hji4_
  have hji4q : (l0_1.length : Int) ≤ 64 → (IntKind.i64.wrap (1 * 2 ^ l0_1.length)) = ji4 := hji4z
  have hji4r : (IntKind.i64.wrap (2 ^ min l0_1.length 64)) = ji4 := by have h_ := hji4p; rw [Int.one_mul] at h_; exact h_
  have hji4s : (l0_1.length : Int) ≤ 64 → (IntKind.i64.wrap (2 ^ l0_1.length)) = ji4 := fun hle_ => by have h_ := hji4q hle_; rw [Int.one_mul] at h_; exact h_
  have hji4u : (IntKind.i64.wrap (2 ^ min (l0_1.length : Int).toNat 64)) = ji4 := by have h_ := hji4_; rw [Int.one_mul] at h_; exact h_
  have hji4v : (l0_1.length : Int) ≤ 64 → (IntKind.i64.wrap (2 ^ (l0_1.length : Int).toNat)) = ji4 := fun hle_ => by have h_ := hji4z hle_; rw [Int.one_mul] at h_; exact h_
  have hji4y : (wrap64 (1 * 2 ^ min (l0_1.length : Int).toNat 64)) = ji4 := (i64_w _).symm.trans hji4_
  have hji4x : (l0_1.length : Int) ≤ 64 → (wrap64 (1 * 2 ^ (l0_1.length : Int).toNat)) = ji4 := fun h_ => (i64_w _).symm.trans (hji4z h_)
  obtain rfl := Option.some.inj H
  go_enter Tryd.func76, Tryd.ntmps76
  go_wp2_with (first | ((with_reducible refine gate_dst (N := 2) rfl ?_); (try (refine gate_guard (by rfl) ?_; dsimp only)); refine box_event ?hg (N := 2) ?hd (cs := #[.int .i64 a0_0, .slice A0_1 l0_1.length c0_1, .slice A0_2 l0_2.length c0_2]) (t := 25) ?hr ?_; (case hd => rfl); (case hg => rfl); (case hr => first | (go_simp; done) | (go_simp; rfl)); intro gb243 hg w5 hbox hb; have BK243 := Aside0.mk (hbox); have GW243 := bsz (w := w) hg; have GE243 := GW243; replace HB := Aside0.mk (below_step bel hb); clear hb hbox hg; have hcz6_0 := blkc BK243.out 0 (.int .i64 a0_0) rfl; have hcz6_1 := blkc BK243.out 1 (.slice A0_1 l0_1.length c0_1) rfl; have hcz6_2 := blkc BK243.out 2 (.slice A0_2 l0_2.length c0_2) rfl))
  go_ret
  exact ⟨by first | rfl | (simp [errW_none, errW_some] <;> rfl) | (simp only [← hji4]; first | rfl | (simp [errW_none, errW_some] <;> rfl)) | (simp [*, errW_none, errW_some] <;> rfl), bel⟩
 ·
  rw [if_neg c3] at H
  have c3b0 : decide (0 ≤ a1) = false := decide_eq_false c3
  clear c3
  obtain rfl := Option.some.inj H
  go_enter Tryd.func76, Tryd.ntmps76
  go_wp2_with (first | ((with_reducible refine gate_dst (N := 2) rfl ?_); (try (refine gate_guard (by rfl) ?_; dsimp only)); refine box_event ?hg (N := 2) ?hd (cs := #[.int .i64 a0_0, .slice A0_1 l0_1.length c0_1, .slice A0_2 l0_2.length c0_2]) (t := 25) ?hr ?_; (case hd => rfl); (case hg => rfl); (case hr => first | (go_simp; done) | (go_simp; rfl)); intro gb243 hg w7 hbox hb; have BK243 := Aside0.mk (hbox); have GW243 := bsz (w := w) hg; have GE243 := GW243; replace HB := Aside0.mk (below_step bel hb); clear hb hbox hg))
  go_ret
  exact ⟨ezz, bel⟩

/-! ### dropperref05_asked: function 48 -/
def dropperref05_asked.f (k : Nat) (a0_0 : Int) (l0_1 : List (S69)) (l0_2 : List (S71)) (a1 : Int) : Option (Int) := (dropperref05_Valid.f k a0_0 l0_1 l0_2).bind fun t245 => (if t245 = true then ((dropperref05_IsState.f a0_0 l0_1 l0_2 a1).bind fun t246 => (if t246 = true then (some 0) else (some 51))) else (some 50))
theorem dropperref05_asked.mono : ∀ a0 a1 a2 a3 k, LeO (dropperref05_asked.f k a0 a1 a2 a3) (dropperref05_asked.f (k + 1) a0 a1 a2 a3) := by
 intro a0 a1 a2 a3 k
 unfold dropperref05_asked.f
 repeat' first
   | (with_reducible exact dropperref05_Valid.mono _ _ _ _)
   | (with_reducible exact LeO.refl _)
   | (with_reducible exact LeO.none _)
   | (with_reducible refine LeO.ite ?_ ?_)
   | (with_reducible refine LeO.bind ?_ (fun _ => ?_))
   | exact dropperref05_Valid.mono _ _ _ _
   | exact LeO.none _
   | refine LeO.ite ?_ ?_
   | refine LeO.bind ?_ (fun _ => ?_)
set_option maxHeartbeats 8000000 in
set_option maxRecDepth 100000 in
theorem dropperref05_asked.calls (k : Nat) (a0_0 : Int) (A0_1 : Option Addr) (c0_1 : Nat) (l0_1 : List (S69)) (A0_2 : Option Addr) (c0_2 : Nat) (l0_2 : List (S71)) (a1 : Int) (r : Int) (w : World) (hr0_1 : Kd.C k69 w A0_1 l0_1.length l0_1) (hc0_1 : l0_1.length ≤ c0_1) (hr0_2 : Kd.C k71 w A0_2 l0_2.length l0_2) (hc0_2 : l0_2.length ≤ c0_2) (h : dropperref05_asked.f k a0_0 l0_1 l0_2 a1 = some r) :
  Calls Tryd.prog 48 #[.agg #[.int .i64 a0_0, .slice A0_1 l0_1.length c0_1, .slice A0_2 l0_2.length c0_2], .int .i64 a1] w fun e w' => e = .returned (.int .i64 r) ∧ Below w.heap.size w w' := by
 have hu25 := Tryd.underlying25
 have HR0_1 := Aside0.mk hr0_1
 have HC0_1 := Aside0.mk hc0_1
 clear hr0_1 hc0_1
 have HR0_2 := Aside0.mk hr0_2
 have HC0_2 := Aside0.mk hc0_2
 clear hr0_2 hc0_2
 have HB := Aside0.mk (Below.refl w.heap.size w)
 have H : ((dropperref05_Valid.f k a0_0 l0_1 l0_2).bind fun t245 => (if t245 = true then ((dropperref05_IsState.f a0_0 l0_1 l0_2 a1).bind fun t246 => (if t246 = true then (some 0) else (some 51))) else (some 50))) = some r := h
 clear h
 replace H := Option.bind_eq_some_iff.mp H
 obtain ⟨t245, A30, H⟩ := H
 replace H : (if t245 = true then ((dropperref05_IsState.f a0_0 l0_1 l0_2 a1).bind fun t246 => (if t246 = true then (some 0) else (some 51))) else (some 50)) = some r := H
 have A3 := Aside0.mk A30
 clear A30
 by_cases c4 : t245 = true
 ·
  subst c4
  have H1 : ((dropperref05_IsState.f a0_0 l0_1 l0_2 a1).bind fun t246 => (if t246 = true then (some 0) else (some 51))) = some r := by rw [if_pos rfl] at H; exact H
  clear H
  have H := H1
  clear H1
  replace H := Option.bind_eq_some_iff.mp H
  obtain ⟨t246, A50, H⟩ := H
  replace H : (if t246 = true then (some 0) else (some 51)) = some r := H
  have A5 := Aside0.mk A50
  clear A50
  by_cases c6 : t246 = true
  ·
   subst c6
   have H1 : (some 0) = some r := by rw [if_pos rfl] at H; exact H
   clear H
   have H := H1
   clear H1
   obtain rfl := Option.some.inj H
   go_enter Tryd.func48, Tryd.ntmps48
   go_wp2_with (first | ((with_reducible refine gate_dst (N := 2) rfl ?_); refine box_event ?hg (N := 2) ?hd (cs := #[.int .i64 a0_0, .slice A0_1 l0_1.length c0_1, .slice A0_2 l0_2.length c0_2]) (t := 25) ?hr ?_; (case hd => rfl); (case hg => rfl); (case hr => first | (go_simp; done) | (go_simp; rfl)); intro gb244 hg w7 hbox hb; have BK244 := Aside0.mk (hbox); have GW244 := bsz (w := w) hg; have GE244 := GW244; replace HB := Aside0.mk (below_step bel hb); clear hb hbox hg; have hcz8_0 := blkc BK244.out 0 (.int .i64 a0_0) rfl; have hcz8_1 := blkc BK244.out 1 (.slice A0_1 l0_1.length c0_1) rfl; have hcz8_2 := blkc BK244.out 2 (.slice A0_2 l0_2.length c0_2) rfl) | ((with_reducible refine gate_callee (f := 20) rfl ?_); refine goesL_ (some 7) rfl rfl Tryd.func20 (by kernel_rfl) rfl #[.agg #[.int .i64 a0_0, .slice A0_1 l0_1.length c0_1, .slice A0_2 l0_2.length c0_2]] rfl mapz ?_; (with_reducible refine (dropperref05_Valid.calls k a0_0 _ _ l0_1 _ _ l0_2 true _ ?side1 ?side2 ?side3 ?side4 A3.out).mono ?_); (case side1 => exact cbz HR0_1); (case side2 => exact HC0_1.out); (case side3 => exact cbz HR0_2); (case side4 => exact HC0_2.out); rintro e w9 ⟨rfl, hb⟩; refine ⟨_, rfl, ?_⟩; replace BK244 := Aside0.mk (blk_below (g := gb244) blkz hb); replace HB := Aside0.mk (below_step bel hb); (try clear hb); (try clear hb2); (try clear hk); (try clear hi); have hcz10_0 := blkc BK244.out 0 (.int .i64 a0_0) rfl; have hcz10_1 := blkc BK244.out 1 (.slice A0_1 l0_1.length c0_1) rfl; have hcz10_2 := blkc BK244.out 2 (.slice A0_2 l0_2.length c0_2) rfl) | ((with_reducible refine gate_callee (f := 76) rfl ?_); refine goesL_ (some 12) rfl rfl Tryd.func76 (by kernel_rfl) rfl #[.agg #[.int .i64 a0_0, .slice A0_1 l0_1.length c0_1, .slice A0_2 l0_2.length c0_2], .int .i64 a1] rfl mapz ?_; (with_reducible refine (dropperref05_IsState.calls a0_0 _ _ l0_1 _ _ l0_2 a1 true _ ?side1 ?side2 ?side3 ?side4 A5.out).mono ?_); (case side1 => exact cbz HR0_1); (case side2 => exact HC0_1.out); (case side3 => exact cbz HR0_2); (case side4 => exact HC0_2.out); rintro e w11 ⟨rfl, hb⟩; refine ⟨_, rfl, ?_⟩; replace BK244 := Aside0.mk (blk_below (g := gb244) blkz hb); replace HB := Aside0.mk (below_step bel hb); (try clear hb); (try clear hb2); (try clear hk); (try clear hi)))
   go_ret
   exact ⟨ezz, bel⟩
  ·
   replace c6 := Bool.eq_false_iff.mpr c6
   subst c6
   have H1 : (some 51) = some r := by rw [if_neg (show ¬ (false = true) by decide)] at H; exact H
   clear H
   have H := H1
   clear H1
   obtain rfl := Option.some.inj H
   go_enter Tryd.func48, Tryd.ntmps48
   go_wp2_with (first | ((with_reducible refine gate_dst (N := 2) rfl ?_); refine box_event ?hg (N := 2) ?hd (cs := #[.int .i64 a0_0, .slice A0_1 l0_1.length c0_1, .slice A0_2 l0_2.length c0_2]) (t := 25) ?hr ?_; (case hd => rfl); (case hg => rfl); (case hr => first | (go_simp; done) | (go_simp; rfl)); intro gb244 hg w12 hbox hb; have BK244 := Aside0.mk (hbox); have GW244 := bsz (w := w) hg; have GE244 := GW244; replace HB := Aside0.mk (below_step bel hb); clear hb hbox hg; have hcz13_0 := blkc BK244.out 0 (.int .i64 a0_0) rfl; have hcz13_1 := blkc BK244.out 1 (.slice A0_1 l0_1.length c0_1) rfl; have hcz13_2 := blkc BK244.out 2 (.slice A0_2 l0_2.length c0_2) rfl) | ((with_reducible refine gate_callee (f := 20) rfl ?_); refine goesL_ (some 7) rfl rfl Tryd.func20 (by kernel_rfl) rfl #[.agg #[.int .i64 a0_0, .slice A0_1 l0_1.length c0_1, .slice A0_2 l0_2.length c0_2]] rfl mapz ?_; (with_reducible refine (dropperref05_Valid.calls k a0_0 _ _ l0_1 _ _ l0_2 true _ ?side1 ?side2 ?side3 ?side4 A3.out).mono ?_); (case side1 => exact cbz HR0_1); (case side2 => exact HC0_1.out); (case side3 => exact cbz HR0_2); (case side4 => exact HC0_2.out); rintro e w14 ⟨rfl, hb⟩; refine ⟨_, rfl, ?_⟩; replace BK244 := Aside0.mk (blk_below (g := gb244) blkz hb); replace HB := Aside0.mk (below_step bel hb); (try clear hb); (try clear hb2); (try clear hk); (try clear hi); have hcz15_0 := blkc BK244.out 0 (.int .i64 a0_0) rfl; have hcz15_1 := blkc BK244.out 1 (.slice A0_1 l0_1.length c0_1) rfl; have hcz15_2 := blkc BK244.out 2 (.slice A0_2 l0_2.length c0_2) rfl) | ((with_reducible refine gate_callee (f := 76) rfl ?_); refine goesL_ (some 12) rfl rfl Tryd.func76 (by kernel_rfl) rfl #[.agg #[.int .i64 a0_0, .slice A0_1 l0_1.length c0_1, .slice A0_2 l0_2.length c0_2], .int .i64 a1] rfl mapz ?_; (with_reducible refine (dropperref05_IsState.calls a0_0 _ _ l0_1 _ _ l0_2 a1 false _ ?side1 ?side2 ?side3 ?side4 A5.out).mono ?_); (case side1 => exact cbz HR0_1); (case side2 => exact HC0_1.out); (case side3 => exact cbz HR0_2); (case side4 => exact HC0_2.out); rintro e w16 ⟨rfl, hb⟩; refine ⟨_, rfl, ?_⟩; replace BK244 := Aside0.mk (blk_below (g := gb244) blkz hb); replace HB := Aside0.mk (below_step bel hb); (try clear hb); (try clear hb2); (try clear hk); (try clear hi)))
   go_ret
   exact ⟨ezz, bel⟩
 ·
  replace c4 := Bool.eq_false_iff.mpr c4
  subst c4
  have H1 : (some 50) = some r := by rw [if_neg (show ¬ (false = true) by decide)] at H; exact H
  clear H
  have H := H1
  clear H1
  obtain rfl := Option.some.inj H
  go_enter Tryd.func48, Tryd.ntmps48
  go_wp2_with (first | ((with_reducible refine gate_dst (N := 2) rfl ?_); refine box_event ?hg (N := 2) ?hd (cs := #[.int .i64 a0_0, .slice A0_1 l0_1.length c0_1, .slice A0_2 l0_2.length c0_2]) (t := 25) ?hr ?_; (case hd => rfl); (case hg => rfl); (case hr => first | (go_simp; done) | (go_simp; rfl)); intro gb244 hg w17 hbox hb; have BK244 := Aside0.mk (hbox); have GW244 := bsz (w := w) hg; have GE244 := GW244; replace HB := Aside0.mk (below_step bel hb); clear hb hbox hg; have hcz18_0 := blkc BK244.out 0 (.int .i64 a0_0) rfl; have hcz18_1 := blkc BK244.out 1 (.slice A0_1 l0_1.length c0_1) rfl; have hcz18_2 := blkc BK244.out 2 (.slice A0_2 l0_2.length c0_2) rfl) | ((with_reducible refine gate_callee (f := 20) rfl ?_); refine goesL_ (some 7) rfl rfl Tryd.func20 (by kernel_rfl) rfl #[.agg #[.int .i64 a0_0, .slice A0_1 l0_1.length c0_1, .slice A0_2 l0_2.length c0_2]] rfl mapz ?_; (with_reducible refine (dropperref05_Valid.calls k a0_0 _ _ l0_1 _ _ l0_2 false _ ?side1 ?side2 ?side3 ?side4 A3.out).mono ?_); (case side1 => exact cbz HR0_1); (case side2 => exact HC0_1.out); (case side3 => exact cbz HR0_2); (case side4 => exact HC0_2.out); rintro e w19 ⟨rfl, hb⟩; refine ⟨_, rfl, ?_⟩; replace BK244 := Aside0.mk (blk_below (g := gb244) blkz hb); replace HB := Aside0.mk (below_step bel hb); (try clear hb); (try clear hb2); (try clear hk); (try clear hi)))
  go_ret
  exact ⟨ezz, bel⟩

/-! ### dropperref05_Why: function 25 -/
def dropperref05_Why.f (k : Nat) (a0_0 : Int) (l0_1 : List (S69)) (l0_2 : List (S71)) (a1 : Int) (a2 : Int) : Option (Int) := (dropperref05_asked.f k a0_0 l0_1 l0_2 a1).bind fun t362 => (if t362 = 0 then ((dropperref05_section.f a0_0 l0_1 l0_2 a2).bind fun t363 => (if t363 = true then (some 0) else (some 2))) else (some t362))
theorem dropperref05_Why.mono : ∀ a0 a1 a2 a3 a4 k, LeO (dropperref05_Why.f k a0 a1 a2 a3 a4) (dropperref05_Why.f (k + 1) a0 a1 a2 a3 a4) := by
 intro a0 a1 a2 a3 a4 k
 unfold dropperref05_Why.f
 repeat' first
   | (with_reducible exact dropperref05_asked.mono _ _ _ _ _)
   | (with_reducible exact LeO.refl _)
   | (with_reducible exact LeO.none _)
   | (with_reducible refine LeO.ite ?_ ?_)
   | (with_reducible refine LeO.bind ?_ (fun _ => ?_))
   | exact dropperref05_asked.mono _ _ _ _ _
   | exact LeO.none _
   | refine LeO.ite ?_ ?_
   | refine LeO.bind ?_ (fun _ => ?_)
set_option maxHeartbeats 8000000 in
set_option maxRecDepth 100000 in
theorem dropperref05_Why.calls (k : Nat) (a0_0 : Int) (A0_1 : Option Addr) (c0_1 : Nat) (l0_1 : List (S69)) (A0_2 : Option Addr) (c0_2 : Nat) (l0_2 : List (S71)) (a1 : Int) (a2 : Int) (r : Int) (w : World) (hr0_1 : Kd.C k69 w A0_1 l0_1.length l0_1) (hc0_1 : l0_1.length ≤ c0_1) (hr0_2 : Kd.C k71 w A0_2 l0_2.length l0_2) (hc0_2 : l0_2.length ≤ c0_2) (h : dropperref05_Why.f k a0_0 l0_1 l0_2 a1 a2 = some r) :
  Calls Tryd.prog 25 #[.agg #[.int .i64 a0_0, .slice A0_1 l0_1.length c0_1, .slice A0_2 l0_2.length c0_2], .int .i64 a1, .int .i64 a2] w fun e w' => e = .returned (.int .i64 r) ∧ Below w.heap.size w w' := by
 have hu25 := Tryd.underlying25
 have HR0_1 := Aside0.mk hr0_1
 have HC0_1 := Aside0.mk hc0_1
 clear hr0_1 hc0_1
 have HR0_2 := Aside0.mk hr0_2
 have HC0_2 := Aside0.mk hc0_2
 clear hr0_2 hc0_2
 have HB := Aside0.mk (Below.refl w.heap.size w)
 have H : ((dropperref05_asked.f k a0_0 l0_1 l0_2 a1).bind fun t362 => (if t362 = 0 then ((dropperref05_section.f a0_0 l0_1 l0_2 a2).bind fun t363 => (if t363 = true then (some 0) else (some 2))) else (some t362))) = some r := h
 clear h
 replace H := Option.bind_eq_some_iff.mp H
 obtain ⟨t362, A40, H⟩ := H
 replace H : (if t362 = 0 then ((dropperref05_section.f a0_0 l0_1 l0_2 a2).bind fun t363 => (if t363 = true then (some 0) else (some 2))) else (some t362)) = some r := H
 have A4 := Aside0.mk A40
 clear A40
 by_cases c5 : t362 = 0
 ·
  rw [if_pos c5] at H
  have c5b0 : (t362 == 0) = true := beq_iff_eq.mpr c5
  have c5b1 : (t362 != 0) = false := bne_eq_false_iff_eq.mpr c5
  clear c5
  replace H := Option.bind_eq_some_iff.mp H
  obtain ⟨t363, A60, H⟩ := H
  replace H : (if t363 = true then (some 0) else (some 2)) = some r := H
  have A6 := Aside0.mk A60
  clear A60
  by_cases c7 : t363 = true
  ·
   subst c7
   have H1 : (some 0) = some r := by rw [if_pos rfl] at H; exact H
   clear H
   have H := H1
   clear H1
   obtain rfl := Option.some.inj H
   go_enter Tryd.func25, Tryd.ntmps25
   go_wp2_with (first | ((with_reducible refine gate_dst (N := 3) rfl ?_); refine box_event ?hg (N := 3) ?hd (cs := #[.int .i64 a0_0, .slice A0_1 l0_1.length c0_1, .slice A0_2 l0_2.length c0_2]) (t := 25) ?hr ?_; (case hd => rfl); (case hg => rfl); (case hr => first | (go_simp; done) | (go_simp; rfl)); intro gb361 hg w8 hbox hb; have BK361 := Aside0.mk (hbox); have GW361 := bsz (w := w) hg; have GE361 := GW361; replace HB := Aside0.mk (below_step bel hb); clear hb hbox hg; have hcz9_0 := blkc BK361.out 0 (.int .i64 a0_0) rfl; have hcz9_1 := blkc BK361.out 1 (.slice A0_1 l0_1.length c0_1) rfl; have hcz9_2 := blkc BK361.out 2 (.slice A0_2 l0_2.length c0_2) rfl) | ((with_reducible refine gate_callee (f := 48) rfl ?_); refine goesL_ (some 10) rfl rfl Tryd.func48 (by kernel_rfl) rfl #[.agg #[.int .i64 a0_0, .slice A0_1 l0_1.length c0_1, .slice A0_2 l0_2.length c0_2], .int .i64 a1] rfl mapz ?_; (with_reducible refine (dropperref05_asked.calls k a0_0 _ _ l0_1 _ _ l0_2 a1 t362 _ ?side1 ?side2 ?side3 ?side4 A4.out).mono ?_); (case side1 => exact cbz HR0_1); (case side2 => exact HC0_1.out); (case side3 => exact cbz HR0_2); (case side4 => exact HC0_2.out); rintro e w10 ⟨rfl, hb⟩; refine ⟨_, rfl, ?_⟩; replace BK361 := Aside0.mk (blk_below (g := gb361) blkz hb); replace HB := Aside0.mk (below_step bel hb); (try clear hb); (try clear hb2); (try clear hk); (try clear hi); have hcz11_0 := blkc BK361.out 0 (.int .i64 a0_0) rfl; have hcz11_1 := blkc BK361.out 1 (.slice A0_1 l0_1.length c0_1) rfl; have hcz11_2 := blkc BK361.out 2 (.slice A0_2 l0_2.length c0_2) rfl) | ((with_reducible refine gate_callee (f := 58) rfl ?_); refine goesL_ (some 16) rfl rfl Tryd.func58 (by kernel_rfl) rfl #[.agg #[.int .i64 a0_0, .slice A0_1 l0_1.length c0_1, .slice A0_2 l0_2.length c0_2], .int .i64 a2] rfl mapz ?_; (with_reducible refine (dropperref05_section.calls a0_0 _ _ l0_1 _ _ l0_2 a2 true _ ?side1 ?side2 ?side3 ?side4 A6.out).mono ?_); (case side1 => exact cbz HR0_1); (case side2 => exact HC0_1.out); (case side3 => exact cbz HR0_2); (case side4 => exact HC0_2.out); rintro e w12 ⟨rfl, hb⟩; refine ⟨_, rfl, ?_⟩; replace BK361 := Aside0.mk (blk_below (g := gb361) blkz hb); replace HB := Aside0.mk (below_step bel hb); (try clear hb); (try clear hb2); (try clear hk); (try clear hi)))
   go_ret
   exact ⟨ezz, bel⟩
  ·
   replace c7 := Bool.eq_false_iff.mpr c7
   subst c7
   have H1 : (some 2) = some r := by rw [if_neg (show ¬ (false = true) by decide)] at H; exact H
   clear H
   have H := H1
   clear H1
   obtain rfl := Option.some.inj H
   go_enter Tryd.func25, Tryd.ntmps25
   go_wp2_with (first | ((with_reducible refine gate_dst (N := 3) rfl ?_); refine box_event ?hg (N := 3) ?hd (cs := #[.int .i64 a0_0, .slice A0_1 l0_1.length c0_1, .slice A0_2 l0_2.length c0_2]) (t := 25) ?hr ?_; (case hd => rfl); (case hg => rfl); (case hr => first | (go_simp; done) | (go_simp; rfl)); intro gb361 hg w13 hbox hb; have BK361 := Aside0.mk (hbox); have GW361 := bsz (w := w) hg; have GE361 := GW361; replace HB := Aside0.mk (below_step bel hb); clear hb hbox hg; have hcz14_0 := blkc BK361.out 0 (.int .i64 a0_0) rfl; have hcz14_1 := blkc BK361.out 1 (.slice A0_1 l0_1.length c0_1) rfl; have hcz14_2 := blkc BK361.out 2 (.slice A0_2 l0_2.length c0_2) rfl) | ((with_reducible refine gate_callee (f := 48) rfl ?_); refine goesL_ (some 10) rfl rfl Tryd.func48 (by kernel_rfl) rfl #[.agg #[.int .i64 a0_0, .slice A0_1 l0_1.length c0_1, .slice A0_2 l0_2.length c0_2], .int .i64 a1] rfl mapz ?_; (with_reducible refine (dropperref05_asked.calls k a0_0 _ _ l0_1 _ _ l0_2 a1 t362 _ ?side1 ?side2 ?side3 ?side4 A4.out).mono ?_); (case side1 => exact cbz HR0_1); (case side2 => exact HC0_1.out); (case side3 => exact cbz HR0_2); (case side4 => exact HC0_2.out); rintro e w15 ⟨rfl, hb⟩; refine ⟨_, rfl, ?_⟩; replace BK361 := Aside0.mk (blk_below (g := gb361) blkz hb); replace HB := Aside0.mk (below_step bel hb); (try clear hb); (try clear hb2); (try clear hk); (try clear hi); have hcz16_0 := blkc BK361.out 0 (.int .i64 a0_0) rfl; have hcz16_1 := blkc BK361.out 1 (.slice A0_1 l0_1.length c0_1) rfl; have hcz16_2 := blkc BK361.out 2 (.slice A0_2 l0_2.length c0_2) rfl) | ((with_reducible refine gate_callee (f := 58) rfl ?_); refine goesL_ (some 16) rfl rfl Tryd.func58 (by kernel_rfl) rfl #[.agg #[.int .i64 a0_0, .slice A0_1 l0_1.length c0_1, .slice A0_2 l0_2.length c0_2], .int .i64 a2] rfl mapz ?_; (with_reducible refine (dropperref05_section.calls a0_0 _ _ l0_1 _ _ l0_2 a2 false _ ?side1 ?side2 ?side3 ?side4 A6.out).mono ?_); (case side1 => exact cbz HR0_1); (case side2 => exact HC0_1.out); (case side3 => exact cbz HR0_2); (case side4 => exact HC0_2.out); rintro e w17 ⟨rfl, hb⟩; refine ⟨_, rfl, ?_⟩; replace BK361 := Aside0.mk (blk_below (g := gb361) blkz hb); replace HB := Aside0.mk (below_step bel hb); (try clear hb); (try clear hb2); (try clear hk); (try clear hi)))
   go_ret
   exact ⟨ezz, bel⟩
 ·
  rw [if_neg c5] at H
  have c5b0 : (t362 == 0) = false := beq_eq_false_iff_ne.mpr c5
  have c5b1 : (t362 != 0) = true := bne_iff_ne.mpr c5
  obtain rfl := Option.some.inj H
  go_enter Tryd.func25, Tryd.ntmps25
  go_wp2_with (first | ((with_reducible refine gate_dst (N := 3) rfl ?_); refine box_event ?hg (N := 3) ?hd (cs := #[.int .i64 a0_0, .slice A0_1 l0_1.length c0_1, .slice A0_2 l0_2.length c0_2]) (t := 25) ?hr ?_; (case hd => rfl); (case hg => rfl); (case hr => first | (go_simp; done) | (go_simp; rfl)); intro gb361 hg w18 hbox hb; have BK361 := Aside0.mk (hbox); have GW361 := bsz (w := w) hg; have GE361 := GW361; replace HB := Aside0.mk (below_step bel hb); clear hb hbox hg; have hcz19_0 := blkc BK361.out 0 (.int .i64 a0_0) rfl; have hcz19_1 := blkc BK361.out 1 (.slice A0_1 l0_1.length c0_1) rfl; have hcz19_2 := blkc BK361.out 2 (.slice A0_2 l0_2.length c0_2) rfl) | ((with_reducible refine gate_callee (f := 48) rfl ?_); refine goesL_ (some 10) rfl rfl Tryd.func48 (by kernel_rfl) rfl #[.agg #[.int .i64 a0_0, .slice A0_1 l0_1.length c0_1, .slice A0_2 l0_2.length c0_2], .int .i64 a1] rfl mapz ?_; (with_reducible refine (dropperref05_asked.calls k a0_0 _ _ l0_1 _ _ l0_2 a1 t362 _ ?side1 ?side2 ?side3 ?side4 A4.out).mono ?_); (case side1 => exact cbz HR0_1); (case side2 => exact HC0_1.out); (case side3 => exact cbz HR0_2); (case side4 => exact HC0_2.out); rintro e w20 ⟨rfl, hb⟩; refine ⟨_, rfl, ?_⟩; replace BK361 := Aside0.mk (blk_below (g := gb361) blkz hb); replace HB := Aside0.mk (below_step bel hb); (try clear hb); (try clear hb2); (try clear hk); (try clear hi)))
  go_ret
  exact ⟨ezz, bel⟩

/-! ### dropperref05_At: function 26 -/
def dropperref05_At.l0 : Nat → Int → Int → Int → List (S69) → List (S71) → Option (Bool)
 | 0, _, _, _, _, _ => none
 | k + 1, x1, x5, x378000, x378001, x378002 => if x5 < (x378002.length : Int) then (if 0 ≤ x5 then (if ((rd_T71 x378002 x5).f0) = x1 then (some true) else (dropperref05_At.l0 k x1 (wrap64 (x5 + 1)) x378000 x378001 x378002)) else (none)) else (some false)
def dropperref05_At.f (k : Nat) (a0_0 : Int) (l0_1 : List (S69)) (l0_2 : List (S71)) (a1 : Int) : Option (Bool) := dropperref05_At.l0 k a1 0 a0_0 l0_1 l0_2
theorem dropperref05_At.mono_l : ∀ k, (∀ y0 y1 y2 y3 y4, LeO (dropperref05_At.l0 k y0 y1 y2 y3 y4) (dropperref05_At.l0 (k + 1) y0 y1 y2 y3 y4))
 | 0 => fun _ _ _ _ _ r h => by simp [dropperref05_At.l0] at h
 | k + 1 => by
  have ih0 := dropperref05_At.mono_l k
  ·
   intro y0 y1 y2 y3 y4
   unfold dropperref05_At.l0
   repeat' first
   | (with_reducible exact ih0 _ _ _ _ _)
   | (with_reducible exact LeO.refl _)
   | (with_reducible exact LeO.none _)
   | (with_reducible refine LeO.ite ?_ ?_)
   | (with_reducible refine LeO.bind ?_ (fun _ => ?_))
   | exact ih0 _ _ _ _ _
   | exact LeO.none _
   | refine LeO.ite ?_ ?_
   | refine LeO.bind ?_ (fun _ => ?_)
theorem dropperref05_At.mono : ∀ a0 a1 a2 a3 k, LeO (dropperref05_At.f k a0 a1 a2 a3) (dropperref05_At.f (k + 1) a0 a1 a2 a3) := by
 intro a0 a1 a2 a3 k
 have ih0 := dropperref05_At.mono_l k
 unfold dropperref05_At.f
 repeat' first
   | (with_reducible exact ih0 _ _ _ _ _)
   | (with_reducible exact LeO.refl _)
   | (with_reducible exact LeO.none _)
   | (with_reducible refine LeO.ite ?_ ?_)
   | (with_reducible refine LeO.bind ?_ (fun _ => ?_))
   | exact ih0 _ _ _ _ _
   | exact LeO.none _
   | refine LeO.ite ?_ ?_
   | refine LeO.bind ?_ (fun _ => ?_)
set_option maxHeartbeats 8000000 in
set_option maxRecDepth 100000 in
theorem dropperref05_At.calls (k : Nat) (a0_0 : Int) (A0_1 : Option Addr) (c0_1 : Nat) (l0_1 : List (S69)) (A0_2 : Option Addr) (c0_2 : Nat) (l0_2 : List (S71)) (a1 : Int) (r : Bool) (w : World) (hr0_1 : Kd.C k69 w A0_1 l0_1.length l0_1) (hc0_1 : l0_1.length ≤ c0_1) (hr0_2 : Kd.C k71 w A0_2 l0_2.length l0_2) (hc0_2 : l0_2.length ≤ c0_2) (h : dropperref05_At.f k a0_0 l0_1 l0_2 a1 = some r) :
  Calls Tryd.prog 26 #[.agg #[.int .i64 a0_0, .slice A0_1 l0_1.length c0_1, .slice A0_2 l0_2.length c0_2], .int .i64 a1] w fun e w' => e = .returned (.bool r) ∧ Below w.heap.size w w' := by
 have hu25 := Tryd.underlying25
 have HR0_1 := Aside0.mk hr0_1
 have HC0_1 := Aside0.mk hc0_1
 clear hr0_1 hc0_1
 have HR0_2 := Aside0.mk hr0_2
 have HC0_2 := Aside0.mk hc0_2
 clear hr0_2 hc0_2
 have HB := Aside0.mk (Below.refl w.heap.size w)
 have H : (dropperref05_At.l0 k a1 0 a0_0 l0_1 l0_2) = some r := h
 clear h
 have H' := Aside0.mk H
 clear H
 go_enter Tryd.func26, Tryd.ntmps26
 go_wp2_with (first | ((with_reducible refine gate_dst (N := 2) rfl ?_); refine box_event ?hg (N := 2) ?hd (cs := #[.int .i64 a0_0, .slice A0_1 l0_1.length c0_1, .slice A0_2 l0_2.length c0_2]) (t := 25) ?hr ?_; (case hd => rfl); (case hg => rfl); (case hr => first | (go_simp; done) | (go_simp; rfl)); intro gb377 hg w3 hbox hb; have BK377 := Aside0.mk (hbox); have GW377 := bsz (w := w) hg; have GE377 := GW377; replace HB := Aside0.mk (below_step bel hb); clear hb hbox hg))
 go_loopg [5] k (fun kq v5 w' => ∃ (x5_1 : Int), v5 = .int .i64 x5_1 ∧ Aside0 (dropperref05_At.l0 kq a1 x5_1 a0_0 l0_1 l0_2 = some r) ∧ Aside0 (kq ≤ k) ∧ Aside0 (w'.heap[gb377]? = some (.cells #[.int .i64 a0_0, (.slice A0_1 l0_1.length c0_1), (.slice A0_2 l0_2.length c0_2)] 25 (0, 0))) ∧ Aside0 (Below w.heap.size w w'))
 case atStart => exact ⟨(0), rsz, H', ⟨Nat.le_refl _⟩, ⟨blkz⟩, ⟨bel⟩⟩
 case round =>
  clear H'
  try clear c2
  try clear p2
  obtain ⟨x5_1, rfl, HA, HK1, BK377, HB⟩ := hrel
  cases gk with
  | zero => exact absurd HA.out (by simp [dropperref05_At.l0])
  | succ k1 =>
   have H := HA.out
   clear HA
   simp only [dropperref05_At.l0] at H
   by_cases c4 : x5_1 < (l0_2.length : Int)
   ·
    rw [if_pos c4] at H
    have c4b0 : decide (x5_1 < (l0_2.length : Int)) = true := decide_eq_true c4
    clear c4
    by_cases c5 : 0 ≤ x5_1
    ·
     rw [if_pos c5] at H
     have c5b0 : decide (0 ≤ x5_1) = true := decide_eq_true c5
     clear c5
     by_cases c6 : ((rd_T71 l0_2 x5_1).f0) = a1
     ·
      rw [if_pos c6] at H
      have c6b0 : (((rd_T71 l0_2 x5_1).f0) == a1) = true := beq_iff_eq.mpr c6
      have c6b1 : (((rd_T71 l0_2 x5_1).f0) != a1) = false := bne_eq_false_iff_eq.mpr c6
      clear c6
      obtain rfl := Option.some.inj H
      have hcz7_0 := blkc BK377.out 0 (.int .i64 a0_0) rfl
      have hcz7_1 := blkc BK377.out 1 (.slice A0_1 l0_1.length c0_1) rfl
      have hcz7_2 := blkc BK377.out 2 (.slice A0_2 l0_2.length c0_2) rfl
      have hfz7_0 := blk_frozen BK377.out 0
      have hfz7_1 := blk_frozen BK377.out 1
      have hfz7_2 := blk_frozen BK377.out 2
      have p378 : 0 ≤ (x5_1 : Int) := of_decide_eq_true asz
      have q378 : x5_1 < (l0_2.length : Int) := of_decide_eq_true asz
      obtain ⟨ad378, e378, hx378_0, hx378_1⟩ := at_T71 HR0_2.out x5_1 p378 q378
      cases e378
      replace hx378_0 := (HB.out.cell (World.block_lt_of_cell? w _ hx378_0)).trans hx378_0
      replace hx378_1 := (HB.out.cell (World.block_lt_of_cell? w _ hx378_1)).trans hx378_1
      replace p378 := eq_true p378
      replace q378 := eq_true q378
      go_wp2
      go_ret
      exact ⟨ezz, bel⟩
     ·
      rw [if_neg c6] at H
      have c6b0 : (((rd_T71 l0_2 x5_1).f0) == a1) = false := beq_eq_false_iff_ne.mpr c6
      have c6b1 : (((rd_T71 l0_2 x5_1).f0) != a1) = true := bne_iff_ne.mpr c6
      have H' := Aside0.mk H
      clear H
      have hcz8_0 := blkc BK377.out 0 (.int .i64 a0_0) rfl
      have hcz8_1 := blkc BK377.out 1 (.slice A0_1 l0_1.length c0_1) rfl
      have hcz8_2 := blkc BK377.out 2 (.slice A0_2 l0_2.length c0_2) rfl
      have hfz8_0 := blk_frozen BK377.out 0
      have hfz8_1 := blk_frozen BK377.out 1
      have hfz8_2 := blk_frozen BK377.out 2
      have p378 : 0 ≤ (x5_1 : Int) := of_decide_eq_true asz
      have q378 : x5_1 < (l0_2.length : Int) := of_decide_eq_true asz
      obtain ⟨ad378, e378, hx378_0, hx378_1⟩ := at_T71 HR0_2.out x5_1 p378 q378
      cases e378
      replace hx378_0 := (HB.out.cell (World.block_lt_of_cell? w _ hx378_0)).trans hx378_0
      replace hx378_1 := (HB.out.cell (World.block_lt_of_cell? w _ hx378_1)).trans hx378_1
      replace p378 := eq_true p378
      replace q378 := eq_true q378
      go_wp2
      go_roundg k1
      case measure => have := HK1.out; omega
      case rel => exact ⟨(wrap64 (x5_1 + 1)), rsz, H', ⟨by have := HK1.out; omega⟩, ⟨blkz⟩, ⟨bel⟩⟩
    ·
     rw [if_neg c5] at H
     exact absurd H (by simp)
   ·
    rw [if_neg c4] at H
    have c4b0 : decide (x5_1 < (l0_2.length : Int)) = false := decide_eq_false c4
    clear c4
    obtain rfl := Option.some.inj H
    have hcz9_0 := blkc BK377.out 0 (.int .i64 a0_0) rfl
    have hcz9_1 := blkc BK377.out 1 (.slice A0_1 l0_1.length c0_1) rfl
    have hcz9_2 := blkc BK377.out 2 (.slice A0_2 l0_2.length c0_2) rfl
    have hfz9_0 := blk_frozen BK377.out 0
    have hfz9_1 := blk_frozen BK377.out 1
    have hfz9_2 := blk_frozen BK377.out 2
    go_wp2
    go_ret
    exact ⟨ezz, bel⟩

/-! ### dropperref05_closed: function 61 -/
def dropperref05_closed.f (a0 : Int) (a1 : Int) : Option (Bool) := if 0 ≤ a1 then (some ((Go.bits .and .i64 (shr .i64 a0 a1) 1) == 1)) else (none)
set_option maxHeartbeats 8000000 in
set_option maxRecDepth 100000 in
theorem dropperref05_closed.calls (a0 : Int) (a1 : Int) (r : Bool) (w : World) (h : dropperref05_closed.f a0 a1 = some r) :
  Calls Tryd.prog 61 #[.int .i64 a0, .int .i64 a1] w fun e w' => e = .returned (.bool r) ∧ Drawn0 w w' := by
 have H : (if 0 ≤ a1 then (some ((Go.bits .and .i64 (shr .i64 a0 a1) 1) == 1)) else (none)) = some r := h
 clear h
 by_cases c3 : 0 ≤ a1
 ·
  rw [if_pos c3] at H
  have c3b0 := eq_true c3
  have c3b1 : decide (0 ≤ a1) = true := decide_eq_true c3
  clear c3
  obtain ⟨ji4, hji4⟩ : ∃ j_ : Int, (shr .i64 a0 a1) = j_ := ⟨_, rfl⟩
  replace H : (some ((Go.bits .and .i64 (ji4) 1) == 1)) = some r := by first | (rw [hji4] at H; exact H) | (simp only [hji4] at H ⊢; exact H)
  have hji4_ : (a0 / 2 ^ min a1.toNat 64) = ji4 := hji4
  have hji4z : a1 ≤ 64 → (a0 / 2 ^ a1.toNat) = ji4 := shr_small hji4
  obtain rfl := Option.some.inj H
  go_enter Tryd.func61, Tryd.ntmps61
  go_wp2
  go_ret
  exact ⟨by first | rfl | (simp; done) | (simp only [← hji4] <;> (first | rfl | simp)) | (simp [*]; done), drz⟩
 ·
  rw [if_neg c3] at H
  exact absurd H (by simp)

end Go.Proofs.YtoilhnmdemnknaaDoor.XFeed