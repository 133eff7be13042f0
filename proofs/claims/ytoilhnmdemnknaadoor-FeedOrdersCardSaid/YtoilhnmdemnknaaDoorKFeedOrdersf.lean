-- Written by wip/pack.py of this repo: texts of this claim, put together.
import Derived.Test.YtoilhnmdemnknaaDoorKFeedOrderse
namespace Go.Proofs.YtoilhnmdemnknaaDoor.XFeed
open Go.RowKit Go.Proofs.YtoilhnmdemnknaaDoorW.PrintWords Go.Proofs.YtoilhnmdemnknaaDoorW.PrintLast Go.Proofs.YtoilhnmdemnknaaDoorW.PrintMore
attribute [local go_sem] max2_int min2_int max_two min_two max_three min_three max_four min_four   -- for this text's walks alone
set_option linter.unusedVariables false
set_option linter.unusedSimpArgs false
/-! ### dropperref05_steps: function 77 -/
mutual
def dropperref05_steps.l0 : Nat → Int → List Bool → List Int → Int → Int → List (S69) → List (S71) → Option (List Int)
 | 0, _, _, _, _, _, _, _ => none
 | k + 1, x1, x7, x8, x9, x570000, x570001, x570002 => if x9 < (x8.length : Int) then (if 0 ≤ x9 then (dropperref05_steps.l0 k x1 x7 (x8.set (x9 : Int).toNat (-1)) (wrap64 (x9 + 1)) x570000 x570001 x570002) else (none)) else (if 0 ≤ x1 then (if x1 < (x7.length : Int) then (if rdOf false x7 x1 = true then (if x1 < (x8.length : Int) then (dropperref05_steps.l1 k x7 (x8.set (x1 : Int).toNat 0) (([x1] : List Int)) 0 x570000 x570001 x570002) else (none)) else (some x8)) else (none)) else (none))
def dropperref05_steps.l1 : Nat → List Bool → List Int → List Int → Int → Int → List (S69) → List (S71) → Option (List Int)
 | 0, _, _, _, _, _, _, _ => none
 | k + 1, x7, x8, x10, x11, x570000, x570001, x570002 => if x11 < (x10.length : Int) then (dropperref05_steps.l2 k x7 x8 x10 x11 0 x570000 x570001 x570002) else (some x8)
def dropperref05_steps.l2 : Nat → List Bool → List Int → List Int → Int → Int → Int → List (S69) → List (S71) → Option (List Int)
 | 0, _, _, _, _, _, _, _, _ => none
 | k + 1, x7, x8, x10, x11, x12, x570000, x570001, x570002 => if x12 < (x570001.length : Int) then (if 0 ≤ x11 then (if x11 < (x10.length : Int) then (if 0 ≤ x12 then (if 0 ≤ (Go.bits .xor .i64 (rd x10 x11) (shl .i64 1 x12)) then (if (Go.bits .xor .i64 (rd x10 x11) (shl .i64 1 x12)) < (x7.length : Int) then (if rdOf false x7 (Go.bits .xor .i64 (rd x10 x11) (shl .i64 1 x12)) = true then (if (Go.bits .xor .i64 (rd x10 x11) (shl .i64 1 x12)) < (x8.length : Int) then (if (rd x8 (Go.bits .xor .i64 (rd x10 x11) (shl .i64 1 x12))) < 0 then (if 0 ≤ (rd x10 x11) then (if (rd x10 x11) < (x8.length : Int) then (if x10.length < 17592186044416 then (dropperref05_steps.l2 k x7 (x8.set ((Go.bits .xor .i64 (rd x10 x11) (shl .i64 1 x12)) : Int).toNat (wrap64 ((rd x8 (rd x10 x11)) + 1))) (x10 ++ [Go.bits .xor .i64 (rd x10 x11) (shl .i64 1 x12)]) x11 (wrap64 (x12 + 1)) x570000 x570001 x570002) else (none)) else (none)) else (none)) else (dropperref05_steps.l2 k x7 x8 x10 x11 (wrap64 (x12 + 1)) x570000 x570001 x570002)) else (none)) else (dropperref05_steps.l2 k x7 x8 x10 x11 (wrap64 (x12 + 1)) x570000 x570001 x570002)) else (none)) else (none)) else (none)) else (none)) else (none)) else (dropperref05_steps.l1 k x7 x8 x10 (wrap64 (x11 + 1)) x570000 x570001 x570002)
end
def dropperref05_steps.f (k : Nat) (a0_0 : Int) (l0_1 : List (S69)) (l0_2 : List (S71)) (a1 : Int) (l2 : List Int) : Option (List Int) := (dropperref05_good.f k a0_0 l0_1 l0_2 l2).bind fun t570 => (if 0 ≤ (t570.length : Int) then (if ((t570.length : Int) : Int).toNat ≤ 35184372088832 then (dropperref05_steps.l0 k a1 t570 (List.replicate ((t570.length : Int) : Int).toNat 0) 0 a0_0 l0_1 l0_2) else (none)) else (none))
theorem dropperref05_steps.mono_l : ∀ k, (∀ y0 y1 y2 y3 y4 y5 y6, LeO (dropperref05_steps.l0 k y0 y1 y2 y3 y4 y5 y6) (dropperref05_steps.l0 (k + 1) y0 y1 y2 y3 y4 y5 y6)) ∧ (∀ y0 y1 y2 y3 y4 y5 y6, LeO (dropperref05_steps.l1 k y0 y1 y2 y3 y4 y5 y6) (dropperref05_steps.l1 (k + 1) y0 y1 y2 y3 y4 y5 y6)) ∧ (∀ y0 y1 y2 y3 y4 y5 y6 y7, LeO (dropperref05_steps.l2 k y0 y1 y2 y3 y4 y5 y6 y7) (dropperref05_steps.l2 (k + 1) y0 y1 y2 y3 y4 y5 y6 y7))
 | 0 => ⟨fun _ _ _ _ _ _ _ r h => by simp [dropperref05_steps.l0] at h, fun _ _ _ _ _ _ _ r h => by simp [dropperref05_steps.l1] at h, fun _ _ _ _ _ _ _ _ r h => by simp [dropperref05_steps.l2] at h⟩
 | k + 1 => by
  obtain ⟨ih0, ih1, ih2⟩ := dropperref05_steps.mono_l k
  refine ⟨?_, ?_, ?_⟩
  ·
   intro y0 y1 y2 y3 y4 y5 y6
   unfold dropperref05_steps.l0
   repeat' first
   | (with_reducible exact ih0 _ _ _ _ _ _ _)
   | (with_reducible exact ih1 _ _ _ _ _ _ _)
   | (with_reducible exact ih2 _ _ _ _ _ _ _ _)
   | (with_reducible exact dropperref05_good.mono _ _ _ _ _)
   | (with_reducible exact LeO.refl _)
   | (with_reducible exact LeO.none _)
   | (with_reducible refine LeO.ite ?_ ?_)
   | (with_reducible refine LeO.bind ?_ (fun _ => ?_))
   | exact ih0 _ _ _ _ _ _ _
   | exact ih1 _ _ _ _ _ _ _
   | exact ih2 _ _ _ _ _ _ _ _
   | exact dropperref05_good.mono _ _ _ _ _
   | exact LeO.none _
   | refine LeO.ite ?_ ?_
   | refine LeO.bind ?_ (fun _ => ?_)
  ·
   intro y0 y1 y2 y3 y4 y5 y6
   unfold dropperref05_steps.l1
   repeat' first
   | (with_reducible exact ih0 _ _ _ _ _ _ _)
   | (with_reducible exact ih1 _ _ _ _ _ _ _)
   | (with_reducible exact ih2 _ _ _ _ _ _ _ _)
   | (with_reducible exact dropperref05_good.mono _ _ _ _ _)
   | (with_reducible exact LeO.refl _)
   | (with_reducible exact LeO.none _)
   | (with_reducible refine LeO.ite ?_ ?_)
   | (with_reducible refine LeO.bind ?_ (fun _ => ?_))
   | exact ih0 _ _ _ _ _ _ _
   | exact ih1 _ _ _ _ _ _ _
   | exact ih2 _ _ _ _ _ _ _ _
   | exact dropperref05_good.mono _ _ _ _ _
   | exact LeO.none _
   | refine LeO.ite ?_ ?_
   | refine LeO.bind ?_ (fun _ => ?_)
  ·
   intro y0 y1 y2 y3 y4 y5 y6 y7
   unfold dropperref05_steps.l2
   repeat' first
   | (with_reducible exact ih0 _ _ _ _ _ _ _)
   | (with_reducible exact ih1 _ _ _ _ _ _ _)
   | (with_reducible exact ih2 _ _ _ _ _ _ _ _)
   | (with_reducible exact dropperref05_good.mono _ _ _ _ _)
   | (with_reducible exact LeO.refl _)
   | (with_reducible exact LeO.none _)
   | (with_reducible refine LeO.ite ?_ ?_)
   | (with_reducible refine LeO.bind ?_ (fun _ => ?_))
   | exact ih0 _ _ _ _ _ _ _
   | exact ih1 _ _ _ _ _ _ _
   | exact ih2 _ _ _ _ _ _ _ _
   | exact dropperref05_good.mono _ _ _ _ _
   | exact LeO.none _
   | refine LeO.ite ?_ ?_
   | refine LeO.bind ?_ (fun _ => ?_)
theorem dropperref05_steps.mono : ∀ a0 a1 a2 a3 a4 k, LeO (dropperref05_steps.f k a0 a1 a2 a3 a4) (dropperref05_steps.f (k + 1) a0 a1 a2 a3 a4) := by
 intro a0 a1 a2 a3 a4 k
 obtain ⟨ih0, ih1, ih2⟩ := dropperref05_steps.mono_l k
 unfold dropperref05_steps.f
 repeat' first
   | (with_reducible exact ih0 _ _ _ _ _ _ _)
   | (with_reducible exact ih1 _ _ _ _ _ _ _)
   | (with_reducible exact ih2 _ _ _ _ _ _ _ _)
   | (with_reducible exact dropperref05_good.mono _ _ _ _ _)
   | (with_reducible exact LeO.refl _)
   | (with_reducible exact LeO.none _)
   | (with_reducible refine LeO.ite ?_ ?_)
   | (with_reducible refine LeO.bind ?_ (fun _ => ?_))
   | exact ih0 _ _ _ _ _ _ _
   | exact ih1 _ _ _ _ _ _ _
   | exact ih2 _ _ _ _ _ _ _ _
   | exact dropperref05_good.mono _ _ _ _ _
   | exact LeO.none _
   | refine LeO.ite ?_ ?_
   | refine LeO.bind ?_ (fun _ => ?_)
set_option maxHeartbeats 8000000 in
set_option maxRecDepth 100000 in
theorem dropperref05_steps.calls (k : Nat) (a0_0 : Int) (A0_1 : Option Addr) (c0_1 : Nat) (l0_1 : List (S69)) (A0_2 : Option Addr) (c0_2 : Nat) (l0_2 : List (S71)) (a1 : Int) (A2 : Option Addr) (c2 : Nat) (l2 : List Int) (r : List Int) (w : World) (hr0_1 : Kd.C k69 w A0_1 l0_1.length l0_1) (hc0_1 : l0_1.length ≤ c0_1) (hr0_2 : Kd.C k71 w A0_2 l0_2.length l0_2) (hc0_2 : l0_2.length ≤ c0_2) (hr2 : Kd.C (Kd.int .i64) w A2 l2.length l2) (hc2 : l2.length ≤ c2) (h : dropperref05_steps.f k a0_0 l0_1 l0_2 a1 l2 = some r) :
  Calls Tryd.prog 77 #[.agg #[.int .i64 a0_0, .slice A0_1 l0_1.length c0_1, .slice A0_2 l0_2.length c0_2], .int .i64 a1, .slice A2 l2.length c2] w fun e w' => ∃ v0_ : Value, e = .returned (v0_) ∧ Kd.R (Kd.int .i64) 3 w' w.heap.size (fun _ => True) v0_ r ∧ Below w.heap.size w w' := by
 have hu25 := Tryd.underlying25
 have HR0_1 := Aside0.mk hr0_1
 have HC0_1 := Aside0.mk hc0_1
 clear hr0_1 hc0_1
 have HR0_2 := Aside0.mk hr0_2
 have HC0_2 := Aside0.mk hc0_2
 clear hr0_2 hc0_2
 have HR2 := Aside0.mk hr2
 have HC2 := Aside0.mk hc2
 clear hr2 hc2
 have HB := Aside0.mk (Below.refl w.heap.size w)
 have H : ((dropperref05_good.f k a0_0 l0_1 l0_2 l2).bind fun t570 => (if 0 ≤ (t570.length : Int) then (if ((t570.length : Int) : Int).toNat ≤ 35184372088832 then (dropperref05_steps.l0 k a1 t570 (List.replicate ((t570.length : Int) : Int).toNat 0) 0 a0_0 l0_1 l0_2) else (none)) else (none))) = some r := h
 clear h
 replace H := Option.bind_eq_some_iff.mp H
 obtain ⟨t570, A40, H⟩ := H
 replace H : (if 0 ≤ (t570.length : Int) then (if ((t570.length : Int) : Int).toNat ≤ 35184372088832 then (dropperref05_steps.l0 k a1 t570 (List.replicate ((t570.length : Int) : Int).toNat 0) 0 a0_0 l0_1 l0_2) else (none)) else (none)) = some r := H
 have A4 := Aside0.mk A40
 clear A40
 by_cases c5 : 0 ≤ (t570.length : Int)
 ·
  rw [if_pos c5] at H
  have c5b0 := eq_true c5
  have c5b1 : decide (0 ≤ (t570.length : Int)) = true := decide_eq_true c5
  clear c5
  by_cases c6 : ((t570.length : Int) : Int).toNat ≤ 35184372088832
  ·
   rw [if_pos c6] at H
   have c6b0 := eq_true c6
   have c6b1 : decide (((t570.length : Int) : Int).toNat ≤ 35184372088832) = true := decide_eq_true c6
   clear c6
   obtain ⟨y573, hy573⟩ : ∃ y_ : List Int, y_ = (List.replicate ((t570.length : Int) : Int).toNat 0) := ⟨_, rfl⟩
   replace H : (dropperref05_steps.l0 k a1 t570 y573 0 a0_0 l0_1 l0_2) = some r := by first | (rw [hy573]; with_reducible exact H) | (have H2_ := (Option.bind_some _ _).symm.trans H; rw [hy573]; with_reducible exact H2_) | (have H2_ := (Option.bind_some _ _).symm.trans H; with_reducible exact H2_) | with_reducible exact H | (rw [hy573]; exact H) | exact H
   have Ny573 := Aside0.mk hy573
   clear hy573
   have H' := Aside0.mk H
   clear H
   go_enter Tryd.func77, Tryd.ntmps77
   go_wp2_with (first | ((with_reducible refine gate_dst (N := 3) rfl ?_); refine box_event ?hg (N := 3) ?hd (cs := #[.int .i64 a0_0, .slice A0_1 l0_1.length c0_1, .slice A0_2 l0_2.length c0_2]) (t := 25) ?hr ?_; (case hd => rfl); (case hg => rfl); (case hr => first | (go_simp; done) | (go_simp; rfl)); intro gb569 hg w7 hbox hb; have BK569 := Aside0.mk (hbox); have GW569 := bsz (w := w) hg; have GE569 := GW569; replace HB := Aside0.mk (below_step bel hb); clear hb hbox hg; have hcz8_0 := blkc BK569.out 0 (.int .i64 a0_0) rfl; have hcz8_1 := blkc BK569.out 1 (.slice A0_1 l0_1.length c0_1) rfl; have hcz8_2 := blkc BK569.out 2 (.slice A0_2 l0_2.length c0_2) rfl) | (go_at_call 98; (with_reducible refine (dropperref05_good.calls k a0_0 _ _ l0_1 _ _ l0_2 _ _ l2 t570 _ ?side1 ?side2 ?side3 ?side4 ?side5 ?side6 A4.out).mono ?_); (case side1 => exact cbz HR0_1); (case side2 => exact HC0_1.out); (case side3 => exact cbz HR0_2); (case side4 => exact HC0_2.out); (case side5 => exact cbz HR2); (case side6 => exact HC2.out); rintro e w9 ⟨v571, rfl, ho0, hb⟩; have HO572 := Aside0.mk (Kd.R_lower ho0 (below_size bel)); replace BK569 := Aside0.mk (blk_below (g := gb569) blkz hb); replace HB := Aside0.mk (below_step bel hb); (try clear hb); (try clear hb2); (try clear hk); (try clear hi); (try clear ho0); obtain ⟨Ao10, co10, eo10⟩ := Kd.R_slice HO572.out; subst eo10) | ((with_reducible refine gate_dst (N := 19) rfl ?_); refine Kd.R_make (Kd.int .i64) _ 3 rfl (N := 19) rfl 28 _ _ rfl (t570.length : Int) rfl rfl Tryd.underlying28 (.int .i64 0) 8 info3 rfl (by decide) (by omega) 0 (ok := fun _ => True) (okp := fun _ => True) rfl (fun _ hk => hk) trivial (of_decide_eq_true asz) (Nat.le_trans (Nat.mul_le_mul_right _ (of_decide_eq_true asz : (t570.length : Int).toNat ≤ 35184372088832)) (by omega)) (Below.refl _ _) (Nat.le_refl _) ?_; intro v574 w11 ho12 hb hg_ hnew_; clear hg_ hnew_; (first | rw [← Ny573.out] at ho12 | (simp only [Int.reduceToNat] at ho12; rw [← Ny573.out] at ho12)); have HO575 := Aside0.mk (Kd.R_lower ho12 (below_size bel)); replace HO572 := Aside0.mk (Kd.R_below (ownx HO572) hb); replace BK569 := Aside0.mk (blk_below (g := gb569) blkz hb); replace HB := Aside0.mk (below_step bel hb); clear hb ho12))
   repeat (go_quiet (first | ((with_reducible refine gate_dst (N := 3) rfl ?_); refine box_event ?hg (N := 3) ?hd (cs := #[.int .i64 a0_0, .slice A0_1 l0_1.length c0_1, .slice A0_2 l0_2.length c0_2]) (t := 25) ?hr ?_; (case hd => rfl); (case hg => rfl); (case hr => first | (go_simp; done) | (go_simp; rfl)); intro gb569 hg w7 hbox hb; have BK569 := Aside0.mk (hbox); have GW569 := bsz (w := w) hg; have GE569 := GW569; replace HB := Aside0.mk (below_step bel hb); clear hb hbox hg; have hcz8_0 := blkc BK569.out 0 (.int .i64 a0_0) rfl; have hcz8_1 := blkc BK569.out 1 (.slice A0_1 l0_1.length c0_1) rfl; have hcz8_2 := blkc BK569.out 2 (.slice A0_2 l0_2.length c0_2) rfl) | (go_at_call 98; (with_reducible refine (dropperref05_good.calls k a0_0 _ _ l0_1 _ _ l0_2 _ _ l2 t570 _ ?side1 ?side2 ?side3 ?side4 ?side5 ?side6 A4.out).mono ?_); (case side1 => exact cbz HR0_1); (case side2 => exact HC0_1.out); (case side3 => exact cbz HR0_2); (case side4 => exact HC0_2.out); (case side5 => exact cbz HR2); (case side6 => exact HC2.out); rintro e w9 ⟨v571, rfl, ho0, hb⟩; have HO572 := Aside0.mk (Kd.R_lower ho0 (below_size bel)); replace BK569 := Aside0.mk (blk_below (g := gb569) blkz hb); replace HB := Aside0.mk (below_step bel hb); (try clear hb); (try clear hb2); (try clear hk); (try clear hi); (try clear ho0); obtain ⟨Ao10, co10, eo10⟩ := Kd.R_slice HO572.out; subst eo10) | ((with_reducible refine gate_dst (N := 19) rfl ?_); refine Kd.R_make (Kd.int .i64) _ 3 rfl (N := 19) rfl 28 _ _ rfl (t570.length : Int) rfl rfl Tryd.underlying28 (.int .i64 0) 8 info3 rfl (by decide) (by omega) 0 (ok := fun _ => True) (okp := fun _ => True) rfl (fun _ hk => hk) trivial (of_decide_eq_true asz) (Nat.le_trans (Nat.mul_le_mul_right _ (of_decide_eq_true asz : (t570.length : Int).toNat ≤ 35184372088832)) (by omega)) (Below.refl _ _) (Nat.le_refl _) ?_; intro v574 w11 ho12 hb hg_ hnew_; clear hg_ hnew_; (first | rw [← Ny573.out] at ho12 | (simp only [Int.reduceToNat] at ho12; rw [← Ny573.out] at ho12)); have HO575 := Aside0.mk (Kd.R_lower ho12 (below_size bel)); replace HO572 := Aside0.mk (Kd.R_below (ownx HO572) hb); replace BK569 := Aside0.mk (blk_below (g := gb569) blkz hb); replace HB := Aside0.mk (below_step bel hb); clear hb ho12)); try go_wp2_with (first | ((with_reducible refine gate_dst (N := 3) rfl ?_); refine box_event ?hg (N := 3) ?hd (cs := #[.int .i64 a0_0, .slice A0_1 l0_1.length c0_1, .slice A0_2 l0_2.length c0_2]) (t := 25) ?hr ?_; (case hd => rfl); (case hg => rfl); (case hr => first | (go_simp; done) | (go_simp; rfl)); intro gb569 hg w7 hbox hb; have BK569 := Aside0.mk (hbox); have GW569 := bsz (w := w) hg; have GE569 := GW569; replace HB := Aside0.mk (below_step bel hb); clear hb hbox hg; have hcz8_0 := blkc BK569.out 0 (.int .i64 a0_0) rfl; have hcz8_1 := blkc BK569.out 1 (.slice A0_1 l0_1.length c0_1) rfl; have hcz8_2 := blkc BK569.out 2 (.slice A0_2 l0_2.length c0_2) rfl) | (go_at_call 98; (with_reducible refine (dropperref05_good.calls k a0_0 _ _ l0_1 _ _ l0_2 _ _ l2 t570 _ ?side1 ?side2 ?side3 ?side4 ?side5 ?side6 A4.out).mono ?_); (case side1 => exact cbz HR0_1); (case side2 => exact HC0_1.out); (case side3 => exact cbz HR0_2); (case side4 => exact HC0_2.out); (case side5 => exact cbz HR2); (case side6 => exact HC2.out); rintro e w9 ⟨v571, rfl, ho0, hb⟩; have HO572 := Aside0.mk (Kd.R_lower ho0 (below_size bel)); replace BK569 := Aside0.mk (blk_below (g := gb569) blkz hb); replace HB := Aside0.mk (below_step bel hb); (try clear hb); (try clear hb2); (try clear hk); (try clear hi); (try clear ho0); obtain ⟨Ao10, co10, eo10⟩ := Kd.R_slice HO572.out; subst eo10) | ((with_reducible refine gate_dst (N := 19) rfl ?_); refine Kd.R_make (Kd.int .i64) _ 3 rfl (N := 19) rfl 28 _ _ rfl (t570.length : Int) rfl rfl Tryd.underlying28 (.int .i64 0) 8 info3 rfl (by decide) (by omega) 0 (ok := fun _ => True) (okp := fun _ => True) rfl (fun _ hk => hk) trivial (of_decide_eq_true asz) (Nat.le_trans (Nat.mul_le_mul_right _ (of_decide_eq_true asz : (t570.length : Int).toNat ≤ 35184372088832)) (by omega)) (Below.refl _ _) (Nat.le_refl _) ?_; intro v574 w11 ho12 hb hg_ hnew_; clear hg_ hnew_; (first | rw [← Ny573.out] at ho12 | (simp only [Int.reduceToNat] at ho12; rw [← Ny573.out] at ho12)); have HO575 := Aside0.mk (Kd.R_lower ho12 (below_size bel)); replace HO572 := Aside0.mk (Kd.R_below (ownx HO572) hb); replace BK569 := Aside0.mk (blk_below (g := gb569) blkz hb); replace HB := Aside0.mk (below_step bel hb); clear hb ho12)))
   go_loopg [9] k (fun kq v9 w' => ∃ (x8_1 : List Int) (x9_1 : Int), v9 = .int .i64 x9_1 ∧ Aside0 (dropperref05_steps.l0 kq a1 t570 x8_1 x9_1 a0_0 l0_1 l0_2 = some r) ∧ Aside0 (kq ≤ k) ∧ Aside0 (Kd.R Kd.bool 4 w' w.heap.size (fun _ => True) (.slice Ao10 t570.length co10) t570) ∧ Aside0 (Kd.R (Kd.int .i64) 3 w' w.heap.size (fun _ => True) v574 x8_1) ∧ Aside0 (w'.heap[gb569]? = some (.cells #[.int .i64 a0_0, (.slice A0_1 l0_1.length c0_1), (.slice A0_2 l0_2.length c0_2)] 25 (0, 0))) ∧ Aside0 (Below w.heap.size w w'))
   case atStart => exact ⟨(y573), (0), rsz, H', ⟨Nat.le_refl _⟩, ⟨by (with_reducible repeat (first | apply Kd.R_alloc | apply Kd.R_drewN | apply Kd.R_drew)); exact HO572.out⟩, ⟨by (with_reducible repeat (first | apply Kd.R_alloc | apply Kd.R_drewN | apply Kd.R_drew)); exact HO575.out⟩, ⟨blkz⟩, ⟨bel⟩⟩
   case round =>
    clear H'
    try clear c2
    try clear p2
    try clear c5
    try clear c5b0
    try clear c5b1
    try clear c6
    try clear c6b0
    try clear c6b1
    try clear c7
    try clear hcz8_0
    try clear hcz8_1
    try clear hcz8_2
    try clear hfz8_0
    try clear hfz8_1
    try clear hfz8_2
    obtain ⟨x8_1, x9_1, rfl, HA, HK1, HO_7, HO_8, BK569, HB⟩ := hrel
    cases gk with
    | zero => exact absurd HA.out (by simp [dropperref05_steps.l0])
    | succ k1 =>
     have H := HA.out
     clear HA
     simp only [dropperref05_steps.l0] at H
     by_cases c13 : x9_1 < (x8_1.length : Int)
     ·
      rw [if_pos c13] at H
      have c13b0 : decide (x9_1 < (x8_1.length : Int)) = true := decide_eq_true c13
      clear c13
      by_cases c14 : 0 ≤ x9_1
      ·
       rw [if_pos c14] at H
       have c14b0 : decide (0 ≤ x9_1) = true := decide_eq_true c14
       clear c14
       obtain ⟨y576, hy576⟩ : ∃ y_ : List Int, y_ = (x8_1.set (x9_1 : Int).toNat (-1)) := ⟨_, rfl⟩
       replace H : (dropperref05_steps.l0 k1 a1 t570 y576 (wrap64 (x9_1 + 1)) a0_0 l0_1 l0_2) = some r := by first | (rw [hy576]; with_reducible exact H) | (have H2_ := (Option.bind_some _ _).symm.trans H; rw [hy576]; with_reducible exact H2_) | (have H2_ := (Option.bind_some _ _).symm.trans H; with_reducible exact H2_) | with_reducible exact H | (rw [hy576]; exact H) | exact H
       have Ny576 := Aside0.mk hy576
       clear hy576
       have H' := Aside0.mk H
       clear H
       obtain ⟨Ao16, co16, eo16⟩ := Kd.R_slice HO_8.out
       subst eo16
       have p15 : 0 ≤ (x9_1 : Int) := of_decide_eq_true asz
       have q15 : (x9_1 : Int) < ((x8_1.length : Int) : Int) := of_decide_eq_true asz
       obtain ⟨go15, co15, eo15, gb15, gl15, cl15, HG15⟩ := Kd.R_form HO_8.out (by omega)
       (first | cases eo15 | (injection eo15 with ea_ en_ ec_; (first | subst ea_ | (injection ea_ with ea_; subst ea_)); subst ec_; clear en_))
       have GB15 := Aside0.mk gb15
       have GG15 := Aside0.mk HG15
       clear gb15 gl15 HG15
       obtain ⟨hx15_0, hf15_0⟩ := Kd.R_celln 0 HO_8.out (x9_1 : Int) p15 q15
       replace p15 := eq_true p15
       replace q15 := eq_true q15
       have HP17 := Kd.R_putg HO_8.out (x9_1 : Int) (-1)
       go_wp2_with (first | ((with_reducible refine gate_store (t := 3) (p := 28) rfl ?_); (try (rw [drewN_self wr]; generalize hq_ : World.drewN wr _ = wr; have n0_ := Aside0.mk (Kd.R_at hq_ HO_7.out); have n1_ := Aside0.mk (Kd.R_at hq_ HO_8.out); have n2_ := Aside0.mk (blk_at hq_ BK569.out); have n3_ := Aside0.mk (below_at hq_ HB.out); clear hq_ HO_7 HO_8 BK569 HB; have HO_7 := n0_; have HO_8 := n1_; have BK569 := n2_; have HB := n3_; clear n0_ n1_ n2_ n3_; (try (have HP17 := Kd.R_putg HO_8.out (x9_1 : Int) (-1))))); refine store_event (t := 3) (p := 28) (v := ?vo_w18) (w1 := (wr.setCell ⟨go15, (x9_1 : Int).toNat, none⟩ (.int .i64 (-1)))) ?hg ?ho ?hn ?hr ?_; (case ho => rfl); (case hg => rfl); (case hn => rfl); (case hr => first | (go_simp; done) | (go_simp; rfl)); intro w18 hw; have hg : wr.grownBy w18 (some go15) := (by rw [hw]; exact HP17.2); have hp_ : Kd.R (Kd.int .i64) 3 w18 w.heap.size (fun _ => True) (.slice (some ⟨go15, 0, none⟩) x8_1.length co16) y576 := (by rw [hw, Ny576.out]; exact HP17.1); clear HP17; replace HO_7 := Aside0.mk (Kd.R_over' (v := (.slice (some ⟨go15, 0, none⟩) x8_1.length co16)) (ownx HO_7) (Kd.R_typed HO_8.out) (by decide) hg); replace BK569 := Aside0.mk (blk_grown (g := gb569) (o := .cells #[.int .i64 a0_0, .slice A0_1 l0_1.length c0_1, .slice A0_2 l0_2.length c0_2] 25 (0, 0)) blkz hg (Kd.R_ne HO_8.out BK569.out (by decide))); replace HO_8 := Aside0.mk (hp_); replace HB := Aside0.mk ((by rw [hw]; exact below_set (HB.out) GB15.out : Below w.heap.size w w18)); clear hg hw hp_))
       repeat (go_quiet (first | ((with_reducible refine gate_store (t := 3) (p := 28) rfl ?_); (try (rw [drewN_self wr]; generalize hq_ : World.drewN wr _ = wr; have n0_ := Aside0.mk (Kd.R_at hq_ HO_7.out); have n1_ := Aside0.mk (Kd.R_at hq_ HO_8.out); have n2_ := Aside0.mk (blk_at hq_ BK569.out); have n3_ := Aside0.mk (below_at hq_ HB.out); clear hq_ HO_7 HO_8 BK569 HB; have HO_7 := n0_; have HO_8 := n1_; have BK569 := n2_; have HB := n3_; clear n0_ n1_ n2_ n3_; (try (have HP17 := Kd.R_putg HO_8.out (x9_1 : Int) (-1))))); refine store_event (t := 3) (p := 28) (v := ?vo_w18) (w1 := (wr.setCell ⟨go15, (x9_1 : Int).toNat, none⟩ (.int .i64 (-1)))) ?hg ?ho ?hn ?hr ?_; (case ho => rfl); (case hg => rfl); (case hn => rfl); (case hr => first | (go_simp; done) | (go_simp; rfl)); intro w18 hw; have hg : wr.grownBy w18 (some go15) := (by rw [hw]; exact HP17.2); have hp_ : Kd.R (Kd.int .i64) 3 w18 w.heap.size (fun _ => True) (.slice (some ⟨go15, 0, none⟩) x8_1.length co16) y576 := (by rw [hw, Ny576.out]; exact HP17.1); clear HP17; replace HO_7 := Aside0.mk (Kd.R_over' (v := (.slice (some ⟨go15, 0, none⟩) x8_1.length co16)) (ownx HO_7) (Kd.R_typed HO_8.out) (by decide) hg); replace BK569 := Aside0.mk (blk_grown (g := gb569) (o := .cells #[.int .i64 a0_0, .slice A0_1 l0_1.length c0_1, .slice A0_2 l0_2.length c0_2] 25 (0, 0)) blkz hg (Kd.R_ne HO_8.out BK569.out (by decide))); replace HO_8 := Aside0.mk (hp_); replace HB := Aside0.mk ((by rw [hw]; exact below_set (HB.out) GB15.out : Below w.heap.size w w18)); clear hg hw hp_)); try go_wp2_with (first | ((with_reducible refine gate_store (t := 3) (p := 28) rfl ?_); (try (rw [drewN_self wr]; generalize hq_ : World.drewN wr _ = wr; have n0_ := Aside0.mk (Kd.R_at hq_ HO_7.out); have n1_ := Aside0.mk (Kd.R_at hq_ HO_8.out); have n2_ := Aside0.mk (blk_at hq_ BK569.out); have n3_ := Aside0.mk (below_at hq_ HB.out); clear hq_ HO_7 HO_8 BK569 HB; have HO_7 := n0_; have HO_8 := n1_; have BK569 := n2_; have HB := n3_; clear n0_ n1_ n2_ n3_; (try (have HP17 := Kd.R_putg HO_8.out (x9_1 : Int) (-1))))); refine store_event (t := 3) (p := 28) (v := ?vo_w18) (w1 := (wr.setCell ⟨go15, (x9_1 : Int).toNat, none⟩ (.int .i64 (-1)))) ?hg ?ho ?hn ?hr ?_; (case ho => rfl); (case hg => rfl); (case hn => rfl); (case hr => first | (go_simp; done) | (go_simp; rfl)); intro w18 hw; have hg : wr.grownBy w18 (some go15) := (by rw [hw]; exact HP17.2); have hp_ : Kd.R (Kd.int .i64) 3 w18 w.heap.size (fun _ => True) (.slice (some ⟨go15, 0, none⟩) x8_1.length co16) y576 := (by rw [hw, Ny576.out]; exact HP17.1); clear HP17; replace HO_7 := Aside0.mk (Kd.R_over' (v := (.slice (some ⟨go15, 0, none⟩) x8_1.length co16)) (ownx HO_7) (Kd.R_typed HO_8.out) (by decide) hg); replace BK569 := Aside0.mk (blk_grown (g := gb569) (o := .cells #[.int .i64 a0_0, .slice A0_1 l0_1.length c0_1, .slice A0_2 l0_2.length c0_2] 25 (0, 0)) blkz hg (Kd.R_ne HO_8.out BK569.out (by decide))); replace HO_8 := Aside0.mk (hp_); replace HB := Aside0.mk ((by rw [hw]; exact below_set (HB.out) GB15.out : Below w.heap.size w w18)); clear hg hw hp_)))
       go_roundg k1
       case measure => have := HK1.out; omega
       case rel => exact ⟨(y576), (wrap64 (x9_1 + 1)), rsz, H', ⟨by have := HK1.out; omega⟩, ⟨by (with_reducible repeat (first | apply Kd.R_alloc | apply Kd.R_drewN | apply Kd.R_drew)); exact HO_7.out⟩, ⟨by (with_reducible repeat (first | apply Kd.R_alloc | apply Kd.R_drewN | apply Kd.R_drew)); exact HO_8.out⟩, ⟨blkz⟩, ⟨bel⟩⟩
      ·
       rw [if_neg c14] at H
       exact absurd H (by simp)
     ·
      rw [if_neg c13] at H
      have c13b0 : decide (x9_1 < (x8_1.length : Int)) = false := decide_eq_false c13
      clear c13
      by_cases c19 : 0 ≤ a1
      ·
       rw [if_pos c19] at H
       have c19b0 : decide (0 ≤ a1) = true := decide_eq_true c19
       clear c19
       by_cases c20 : a1 < (t570.length : Int)
       ·
        rw [if_pos c20] at H
        have c20b0 : decide (a1 < (t570.length : Int)) = true := decide_eq_true c20
        clear c20
        obtain ⟨bq21, hbq21⟩ : ∃ b_ : Bool, b_ = (rdOf false t570 a1) := ⟨_, rfl⟩
        replace H : (if bq21 = true then (if a1 < (x8_1.length : Int) then (dropperref05_steps.l1 k1 t570 (x8_1.set (a1 : Int).toNat 0) (([a1] : List Int)) 0 a0_0 l0_1 l0_2) else (none)) else (some x8_1)) = some r := by rw [← hbq21] at H; exact H
        have Nbq21 := Aside0.mk hbq21
        clear hbq21
        by_cases c22 : bq21 = true
        ·
         subst c22
         have H1 : (if a1 < (x8_1.length : Int) then (dropperref05_steps.l1 k1 t570 (x8_1.set (a1 : Int).toNat 0) (([a1] : List Int)) 0 a0_0 l0_1 l0_2) else (none)) = some r := by rw [if_pos rfl] at H; exact H
         clear H
         have H := H1
         clear H1
         by_cases c23 : a1 < (x8_1.length : Int)
         ·
          rw [if_pos c23] at H
          have c23b0 : decide (a1 < (x8_1.length : Int)) = true := decide_eq_true c23
          clear c23
          obtain ⟨y578, hy578⟩ : ∃ y_ : List Int, y_ = (x8_1.set (a1 : Int).toNat 0) := ⟨_, rfl⟩
          replace H : (dropperref05_steps.l1 k1 t570 y578 (([a1] : List Int)) 0 a0_0 l0_1 l0_2) = some r := by first | (rw [hy578]; with_reducible exact H) | (have H2_ := (Option.bind_some _ _).symm.trans H; rw [hy578]; with_reducible exact H2_) | (have H2_ := (Option.bind_some _ _).symm.trans H; with_reducible exact H2_) | with_reducible exact H | (rw [hy578]; exact H) | exact H
          have Ny578 := Aside0.mk hy578
          clear hy578
          obtain ⟨y579, hy579⟩ : ∃ y_ : List Int, y_ = (([a1] : List Int)) := ⟨_, rfl⟩
          replace H : (dropperref05_steps.l1 k1 t570 y578 y579 0 a0_0 l0_1 l0_2) = some r := by first | (rw [hy579]; with_reducible exact H) | (have H2_ := (Option.bind_some _ _).symm.trans H; rw [hy579]; with_reducible exact H2_) | (have H2_ := (Option.bind_some _ _).symm.trans H; with_reducible exact H2_) | with_reducible exact H | (rw [hy579]; exact H) | exact H
          have Ny579 := Aside0.mk hy579
          clear hy579
          have H' := Aside0.mk H
          clear H
          obtain ⟨Ao25, co25, eo25⟩ := Kd.R_slice HO_8.out
          subst eo25
          have p577 : 0 ≤ (a1 : Int) := of_decide_eq_true asz
          have q577 : a1 < (t570.length : Int) := of_decide_eq_true asz
          obtain ⟨ad577, e577, hx577_0⟩ := Kd.at_bool (Kd.R_reads' HO_7.out).2.2 a1 p577 q577
          (try rw [← Nbq21.out] at hx577_0)
          cases e577
          replace p577 := eq_true p577
          replace q577 := eq_true q577
          have p24 : 0 ≤ (a1 : Int) := of_decide_eq_true asz
          have q24 : (a1 : Int) < ((x8_1.length : Int) : Int) := of_decide_eq_true asz
          obtain ⟨go24, co24, eo24, gb24, gl24, cl24, HG24⟩ := Kd.R_form HO_8.out (by omega)
          (first | cases eo24 | (injection eo24 with ea_ en_ ec_; (first | subst ea_ | (injection ea_ with ea_; subst ea_)); subst ec_; clear en_))
          have GB24 := Aside0.mk gb24
          have GG24 := Aside0.mk HG24
          clear gb24 gl24 HG24
          obtain ⟨hx24_0, hf24_0⟩ := Kd.R_celln 0 HO_8.out (a1 : Int) p24 q24
          replace p24 := eq_true p24
          replace q24 := eq_true q24
          have HP26 := Kd.R_putg HO_8.out (a1 : Int) 0
          go_wp2_with (first | ((with_reducible refine gate_store (t := 3) (p := 37) rfl ?_); (try (rw [drewN_self wr]; generalize hq_ : World.drewN wr _ = wr; have n0_ := Aside0.mk (Kd.R_at hq_ HO_7.out); have n1_ := Aside0.mk (Kd.R_at hq_ HO_8.out); have n2_ := Aside0.mk (blk_at hq_ BK569.out); have n3_ := Aside0.mk (below_at hq_ HB.out); clear hq_ HO_7 HO_8 BK569 HB; have HO_7 := n0_; have HO_8 := n1_; have BK569 := n2_; have HB := n3_; clear n0_ n1_ n2_ n3_; (try (have HP26 := Kd.R_putg HO_8.out (a1 : Int) 0)))); refine store_event (t := 3) (p := 37) (v := ?vo_w27) (w1 := (wr.setCell ⟨go24, (a1 : Int).toNat, none⟩ (.int .i64 0))) ?hg ?ho ?hn ?hr ?_; (case ho => rfl); (case hg => rfl); (case hn => rfl); (case hr => first | (go_simp; done) | (go_simp; rfl)); intro w27 hw; have hg : wr.grownBy w27 (some go24) := (by rw [hw]; exact HP26.2); have hp_ : Kd.R (Kd.int .i64) 3 w27 w.heap.size (fun _ => True) (.slice (some ⟨go24, 0, none⟩) x8_1.length co25) y578 := (by rw [hw, Ny578.out]; exact HP26.1); clear HP26; replace HO_7 := Aside0.mk (Kd.R_over' (v := (.slice (some ⟨go24, 0, none⟩) x8_1.length co25)) (ownx HO_7) (Kd.R_typed HO_8.out) (by decide) hg); replace BK569 := Aside0.mk (blk_grown (g := gb569) (o := .cells #[.int .i64 a0_0, .slice A0_1 l0_1.length c0_1, .slice A0_2 l0_2.length c0_2] 25 (0, 0)) blkz hg (Kd.R_ne HO_8.out BK569.out (by decide))); replace HO_8 := Aside0.mk (hp_); replace HB := Aside0.mk ((by rw [hw]; exact below_set (HB.out) GB24.out : Below w.heap.size w w27)); clear hg hw hp_) | ((with_reducible refine gate_dst (N := 39) rfl ?_); refine Kd.R_lit (Kd.int .i64) _ 3 ?hg (N := 39) ?hd (xs := ([a1] : List Int)) (inner := [.int .i64 a1]) (ok := fun _ => True) (okp := fun _ => True) ?hr ?hp (fun _ hk => hk) trivial (Below.refl _ _) (Nat.le_refl _) (by simp) ?_; (case hd => rfl); (case hg => rfl); (case hr => first | (go_simp; done) | (go_simp; rfl)); (case hp => exact (Reps.one (show Kd.M (Kd.int .i64) _ _ _ a1 [.int .i64 a1] from rfl) (Reps.none _ _))); intro v580 w28 ho29 hb hg_ hnew_; clear hg_ hnew_; (first | rw [← Ny579.out] at ho29 | (simp only [Int.reduceToNat] at ho29; rw [← Ny579.out] at ho29)); have HO581 := Aside0.mk (Kd.R_lower (Kd.R_new' ho29 (Kd.R_lt (ownx HO_8))) (below_size bel)); replace HO_7 := Aside0.mk (Kd.R_below (ownx HO_7) hb); replace HO_8 := Aside0.mk (Kd.R_elder' (ownx HO_8) (Kd.R_base ho29) hb); replace BK569 := Aside0.mk (blk_below (g := gb569) blkz hb); replace HB := Aside0.mk (below_step bel hb); clear hb ho29))
          repeat (go_quiet (first | ((with_reducible refine gate_store (t := 3) (p := 37) rfl ?_); (try (rw [drewN_self wr]; generalize hq_ : World.drewN wr _ = wr; have n0_ := Aside0.mk (Kd.R_at hq_ HO_7.out); have n1_ := Aside0.mk (Kd.R_at hq_ HO_8.out); have n2_ := Aside0.mk (blk_at hq_ BK569.out); have n3_ := Aside0.mk (below_at hq_ HB.out); clear hq_ HO_7 HO_8 BK569 HB; have HO_7 := n0_; have HO_8 := n1_; have BK569 := n2_; have HB := n3_; clear n0_ n1_ n2_ n3_; (try (have HP26 := Kd.R_putg HO_8.out (a1 : Int) 0)))); refine store_event (t := 3) (p := 37) (v := ?vo_w27) (w1 := (wr.setCell ⟨go24, (a1 : Int).toNat, none⟩ (.int .i64 0))) ?hg ?ho ?hn ?hr ?_; (case ho => rfl); (case hg => rfl); (case hn => rfl); (case hr => first | (go_simp; done) | (go_simp; rfl)); intro w27 hw; have hg : wr.grownBy w27 (some go24) := (by rw [hw]; exact HP26.2); have hp_ : Kd.R (Kd.int .i64) 3 w27 w.heap.size (fun _ => True) (.slice (some ⟨go24, 0, none⟩) x8_1.length co25) y578 := (by rw [hw, Ny578.out]; exact HP26.1); clear HP26; replace HO_7 := Aside0.mk (Kd.R_over' (v := (.slice (some ⟨go24, 0, none⟩) x8_1.length co25)) (ownx HO_7) (Kd.R_typed HO_8.out) (by decide) hg); replace BK569 := Aside0.mk (blk_grown (g := gb569) (o := .cells #[.int .i64 a0_0, .slice A0_1 l0_1.length c0_1, .slice A0_2 l0_2.length c0_2] 25 (0, 0)) blkz hg (Kd.R_ne HO_8.out BK569.out (by decide))); replace HO_8 := Aside0.mk (hp_); replace HB := Aside0.mk ((by rw [hw]; exact below_set (HB.out) GB24.out : Below w.heap.size w w27)); clear hg hw hp_) | ((with_reducible refine gate_dst (N := 39) rfl ?_); refine Kd.R_lit (Kd.int .i64) _ 3 ?hg (N := 39) ?hd (xs := ([a1] : List Int)) (inner := [.int .i64 a1]) (ok := fun _ => True) (okp := fun _ => True) ?hr ?hp (fun _ hk => hk) trivial (Below.refl _ _) (Nat.le_refl _) (by simp) ?_; (case hd => rfl); (case hg => rfl); (case hr => first | (go_simp; done) | (go_simp; rfl)); (case hp => exact (Reps.one (show Kd.M (Kd.int .i64) _ _ _ a1 [.int .i64 a1] from rfl) (Reps.none _ _))); intro v580 w28 ho29 hb hg_ hnew_; clear hg_ hnew_; (first | rw [← Ny579.out] at ho29 | (simp only [Int.reduceToNat] at ho29; rw [← Ny579.out] at ho29)); have HO581 := Aside0.mk (Kd.R_lower (Kd.R_new' ho29 (Kd.R_lt (ownx HO_8))) (below_size bel)); replace HO_7 := Aside0.mk (Kd.R_below (ownx HO_7) hb); replace HO_8 := Aside0.mk (Kd.R_elder' (ownx HO_8) (Kd.R_base ho29) hb); replace BK569 := Aside0.mk (blk_below (g := gb569) blkz hb); replace HB := Aside0.mk (below_step bel hb); clear hb ho29)); try go_wp2_with (first | ((with_reducible refine gate_store (t := 3) (p := 37) rfl ?_); (try (rw [drewN_self wr]; generalize hq_ : World.drewN wr _ = wr; have n0_ := Aside0.mk (Kd.R_at hq_ HO_7.out); have n1_ := Aside0.mk (Kd.R_at hq_ HO_8.out); have n2_ := Aside0.mk (blk_at hq_ BK569.out); have n3_ := Aside0.mk (below_at hq_ HB.out); clear hq_ HO_7 HO_8 BK569 HB; have HO_7 := n0_; have HO_8 := n1_; have BK569 := n2_; have HB := n3_; clear n0_ n1_ n2_ n3_; (try (have HP26 := Kd.R_putg HO_8.out (a1 : Int) 0)))); refine store_event (t := 3) (p := 37) (v := ?vo_w27) (w1 := (wr.setCell ⟨go24, (a1 : Int).toNat, none⟩ (.int .i64 0))) ?hg ?ho ?hn ?hr ?_; (case ho => rfl); (case hg => rfl); (case hn => rfl); (case hr => first | (go_simp; done) | (go_simp; rfl)); intro w27 hw; have hg : wr.grownBy w27 (some go24) := (by rw [hw]; exact HP26.2); have hp_ : Kd.R (Kd.int .i64) 3 w27 w.heap.size (fun _ => True) (.slice (some ⟨go24, 0, none⟩) x8_1.length co25) y578 := (by rw [hw, Ny578.out]; exact HP26.1); clear HP26; replace HO_7 := Aside0.mk (Kd.R_over' (v := (.slice (some ⟨go24, 0, none⟩) x8_1.length co25)) (ownx HO_7) (Kd.R_typed HO_8.out) (by decide) hg); replace BK569 := Aside0.mk (blk_grown (g := gb569) (o := .cells #[.int .i64 a0_0, .slice A0_1 l0_1.length c0_1, .slice A0_2 l0_2.length c0_2] 25 (0, 0)) blkz hg (Kd.R_ne HO_8.out BK569.out (by decide))); replace HO_8 := Aside0.mk (hp_); replace HB := Aside0.mk ((by rw [hw]; exact below_set (HB.out) GB24.out : Below w.heap.size w w27)); clear hg hw hp_) | ((with_reducible refine gate_dst (N := 39) rfl ?_); refine Kd.R_lit (Kd.int .i64) _ 3 ?hg (N := 39) ?hd (xs := ([a1] : List Int)) (inner := [.int .i64 a1]) (ok := fun _ => True) (okp := fun _ => True) ?hr ?hp (fun _ hk => hk) trivial (Below.refl _ _) (Nat.le_refl _) (by simp) ?_; (case hd => rfl); (case hg => rfl); (case hr => first | (go_simp; done) | (go_simp; rfl)); (case hp => exact (Reps.one (show Kd.M (Kd.int .i64) _ _ _ a1 [.int .i64 a1] from rfl) (Reps.none _ _))); intro v580 w28 ho29 hb hg_ hnew_; clear hg_ hnew_; (first | rw [← Ny579.out] at ho29 | (simp only [Int.reduceToNat] at ho29; rw [← Ny579.out] at ho29)); have HO581 := Aside0.mk (Kd.R_lower (Kd.R_new' ho29 (Kd.R_lt (ownx HO_8))) (below_size bel)); replace HO_7 := Aside0.mk (Kd.R_below (ownx HO_7) hb); replace HO_8 := Aside0.mk (Kd.R_elder' (ownx HO_8) (Kd.R_base ho29) hb); replace BK569 := Aside0.mk (blk_below (g := gb569) blkz hb); replace HB := Aside0.mk (below_step bel hb); clear hb ho29)))
          go_loopg [10, 11] k1 (fun kq v10 v11 w' => ∃ (x8_2 : List Int) (x10_2 : List Int) (x11_2 : Int), v11 = .int .i64 x11_2 ∧ Aside0 (dropperref05_steps.l1 kq t570 x8_2 x10_2 x11_2 a0_0 l0_1 l0_2 = some r) ∧ Aside0 (kq ≤ k1) ∧ Aside0 (Kd.R Kd.bool 4 w' w.heap.size (fun _ => True) (.slice (some ad577) t570.length co10) t570) ∧ Aside0 (Kd.R (Kd.int .i64) 3 w' w.heap.size (fun k_ => some k_ ≠ (v10 : Value).ownBlock) (.slice (some ⟨go24, 0, none⟩) x8_1.length co25) x8_2) ∧ Aside0 (Kd.R (Kd.int .i64) 3 w' w.heap.size (fun k_ => some k_ ≠ ((.slice (some ⟨go24, 0, none⟩) x8_1.length co25) : Value).ownBlock) v10 x10_2) ∧ Aside0 (w'.heap[gb569]? = some (.cells #[.int .i64 a0_0, (.slice A0_1 l0_1.length c0_1), (.slice A0_2 l0_2.length c0_2)] 25 (0, 0))) ∧ Aside0 (Below w.heap.size w w'))
          case atStart => exact ⟨(y578), (y579), (0), rsz, H', ⟨Nat.le_refl _⟩, ⟨by (with_reducible repeat (first | apply Kd.R_alloc | apply Kd.R_drewN | apply Kd.R_drew)); exact HO_7.out⟩, ⟨by (with_reducible repeat (first | apply Kd.R_alloc | apply Kd.R_drewN | apply Kd.R_drew)); exact Kd.R_mono HO_8.out (fun _ hk => hk.2)⟩, ⟨by (with_reducible repeat (first | apply Kd.R_alloc | apply Kd.R_drewN | apply Kd.R_drew)); exact Kd.R_mono HO581.out (fun _ hk => hk.2)⟩, ⟨blkz⟩, ⟨bel⟩⟩
          case round =>
           clear H'
           try clear c1
           try clear p1
           try clear q1
           try clear hx1
           try clear c2
           try clear p2
           try clear q2
           try clear hx2
           try clear c5
           try clear c5b0
           try clear c5b1
           try clear p5
           try clear q5
           try clear hx5
           try clear c6
           try clear c6b0
           try clear c6b1
           try clear p6
           try clear c7
           try clear c13
           try clear c13b0
           try clear c14
           try clear c14b0
           try clear p15
           try clear q15
           try clear hx15
           try clear hf15
           try clear c19
           try clear c19b0
           try clear c20
           try clear c20b0
           try clear q21
           try clear c22
           try clear c23
           try clear c23b0
           try clear p24
           try clear q24
           try clear hx24
           try clear hf24
           try clear hcz8_0
           try clear hcz8_1
           try clear hcz8_2
           try clear hfz8_0
           try clear hfz8_1
           try clear hfz8_2
           try clear hx15_0
           try clear hx24_0
           try clear hx577_0
           try clear p15
           try clear p2
           try clear p24
           try clear p577
           try clear q15
           try clear q24
           try clear q577
           obtain ⟨x8_2, x10_2, x11_2, rfl, HA, HK2, HO_7, HO_8, HO_10, BK569, HB⟩ := hrel
           have hl8_2 := (Kd.R_reads' HO_8.out).1
           rw [hl8_2] at HO_8
           (try simp only [hl8_2])
           (try simp only [hl8_2] at BK569)
           (try simp only [hl8_2] at HO_7)
           (try simp only [hl8_2] at HO_10)
           cases gk with
           | zero => exact absurd HA.out (by simp [dropperref05_steps.l1])
           | succ k2 =>
            have H := HA.out
            clear HA
            simp only [dropperref05_steps.l1] at H
            by_cases c30 : x11_2 < (x10_2.length : Int)
            ·
             rw [if_pos c30] at H
             have c30b0 : decide (x11_2 < (x10_2.length : Int)) = true := decide_eq_true c30
             try (have c30b0hl8_2 := c30b0; simp only [hl8_2] at c30b0hl8_2)
             clear c30
             have H' := Aside0.mk H
             clear H
             obtain ⟨Ao31, co31, eo31⟩ := Kd.R_slice HO_10.out
             subst eo31
             go_wp2
             repeat (go_quiet (fail); try go_wp2)
             go_loopg [10, 12] k2 (fun kq v10 v12 w' => ∃ (x8_3 : List Int) (x10_3 : List Int) (x12_3 : Int), v12 = .int .i64 x12_3 ∧ Aside0 (dropperref05_steps.l2 kq t570 x8_3 x10_3 x11_2 x12_3 a0_0 l0_1 l0_2 = some r) ∧ Aside0 (kq ≤ k2) ∧ Aside0 (Kd.R Kd.bool 4 w' w.heap.size (fun _ => True) (.slice (some ad577) t570.length co10) t570) ∧ Aside0 (Kd.R (Kd.int .i64) 3 w' w.heap.size (fun k_ => some k_ ≠ (v10 : Value).ownBlock) (.slice (some ⟨go24, 0, none⟩) x8_2.length co25) x8_3) ∧ Aside0 (Kd.R (Kd.int .i64) 3 w' w.heap.size (fun k_ => some k_ ≠ ((.slice (some ⟨go24, 0, none⟩) x8_2.length co25) : Value).ownBlock) v10 x10_3) ∧ Aside0 (w'.heap[gb569]? = some (.cells #[.int .i64 a0_0, (.slice A0_1 l0_1.length c0_1), (.slice A0_2 l0_2.length c0_2)] 25 (0, 0))) ∧ Aside0 (Below w.heap.size w w'))
             case atStart => exact ⟨(x8_2), (x10_2), (0), rsz, H', ⟨Nat.le_refl _⟩, ⟨by (try simp only [hl8_2]); (with_reducible repeat (first | apply Kd.R_alloc | apply Kd.R_drewN | apply Kd.R_drew)); exact HO_7.out⟩, ⟨by (try simp only [hl8_2]); (with_reducible repeat (first | apply Kd.R_alloc | apply Kd.R_drewN | apply Kd.R_drew)); exact HO_8.out⟩, ⟨by (try simp only [hl8_2]); (with_reducible repeat (first | apply Kd.R_alloc | apply Kd.R_drewN | apply Kd.R_drew)); exact HO_10.out⟩, ⟨by (try simp only [hl8_2]); (with_reducible repeat (first | refine blk_drewN ?_ _ | refine blk_drew ?_ | refine blk_alloc ?_ _)); exact BK569.out⟩, ⟨bel⟩⟩
             case round =>
              clear H'
              try clear c1
              try clear p1
              try clear q1
              try clear hx1
              try clear c2
              try clear p2
              try clear q2
              try clear hx2
              try clear c3
              try clear c5
              try clear c5b0
              try clear c5b1
              try clear p5
              try clear q5
              try clear hx5
              try clear c6
              try clear c6b0
              try clear c6b1
              try clear p6
              try clear c7
              try clear c13
              try clear c13b0
              try clear c14
              try clear c14b0
              try clear p15
              try clear q15
              try clear hx15
              try clear hf15
              try clear c19
              try clear c19b0
              try clear c20
              try clear c20b0
              try clear q21
              try clear c22
              try clear c23
              try clear c23b0
              try clear p24
              try clear q24
              try clear hx24
              try clear hf24
              try clear c30
              try clear c30b0
              try clear hcz8_0
              try clear hcz8_1
              try clear hcz8_2
              try clear hfz8_0
              try clear hfz8_1
              try clear hfz8_2
              try clear hx15_0
              try clear hx24_0
              try clear hx577_0
              try clear p1
              try clear p15
              try clear p2
              try clear p24
              try clear p5
              try clear p577
              try clear p6
              try clear q1
              try clear q15
              try clear q2
              try clear q21
              try clear q24
              try clear q5
              try clear q577
              obtain ⟨x8_3, x10_3, x12_3, rfl, HA, HK3, HO_7, HO_8, HO_10, BK569, HB⟩ := hrel
              have hl8_3 := (Kd.R_reads' HO_8.out).1
              rw [hl8_3] at HO_8
              (try simp only [hl8_3])
              (try simp only [hl8_3] at BK569)
              (try simp only [hl8_3] at HO_7)
              (try simp only [hl8_3] at HO_10)
              cases gk with
              | zero => exact absurd HA.out (by simp [dropperref05_steps.l2])
              | succ k3 =>
               have H := HA.out
               clear HA
               simp only [dropperref05_steps.l2] at H
               by_cases c32 : x12_3 < (l0_1.length : Int)
               ·
                rw [if_pos c32] at H
                have c32b0 : decide (x12_3 < (l0_1.length : Int)) = true := decide_eq_true c32
                try (have c32b0hl8_2 := c32b0; simp only [hl8_2] at c32b0hl8_2)
                try (have c32b0hl8_3 := c32b0; simp only [hl8_3] at c32b0hl8_3)
                clear c32
                by_cases c33 : 0 ≤ x11_2
                ·
                 rw [if_pos c33] at H
                 have c33b0 : decide (0 ≤ x11_2) = true := decide_eq_true c33
                 clear c33
                 by_cases c34 : x11_2 < (x10_3.length : Int)
                 ·
                  rw [if_pos c34] at H
                  have c34b0 : decide (x11_2 < (x10_3.length : Int)) = true := decide_eq_true c34
                  try (have c34b0hl8_2 := c34b0; simp only [hl8_2] at c34b0hl8_2)
                  try (have c34b0hl8_3 := c34b0; simp only [hl8_3] at c34b0hl8_3)
                  clear c34
                  by_cases c35 : 0 ≤ x12_3
                  ·
                   rw [if_pos c35] at H
                   have c35b0 := eq_true c35
                   have c35b1 : decide (0 ≤ x12_3) = true := decide_eq_true c35
                   clear c35
                   obtain ⟨ji36, hji36⟩ : ∃ j_ : Int, (shl .i64 1 x12_3) = j_ := ⟨_, rfl⟩
                   replace H : (if 0 ≤ (Go.bits .xor .i64 (rd x10_3 x11_2) (ji36)) then (if (Go.bits .xor .i64 (rd x10_3 x11_2) (ji36)) < (t570.length : Int) then (if rdOf false t570 (Go.bits .xor .i64 (rd x10_3 x11_2) (ji36)) = true then (if (Go.bits .xor .i64 (rd x10_3 x11_2) (ji36)) < (x8_3.length : Int) then (if (rd x8_3 (Go.bits .xor .i64 (rd x10_3 x11_2) (ji36))) < 0 then (if 0 ≤ (rd x10_3 x11_2) then (if (rd x10_3 x11_2) < (x8_3.length : Int) then (if x10_3.length < 17592186044416 then (dropperref05_steps.l2 k3 t570 (x8_3.set ((Go.bits .xor .i64 (rd x10_3 x11_2) (ji36)) : Int).toNat (wrap64 ((rd x8_3 (rd x10_3 x11_2)) + 1))) (x10_3 ++ [Go.bits .xor .i64 (rd x10_3 x11_2) (ji36)]) x11_2 (wrap64 (x12_3 + 1)) a0_0 l0_1 l0_2) else (none)) else (none)) else (none)) else (dropperref05_steps.l2 k3 t570 x8_3 x10_3 x11_2 (wrap64 (x12_3 + 1)) a0_0 l0_1 l0_2)) else (none)) else (dropperref05_steps.l2 k3 t570 x8_3 x10_3 x11_2 (wrap64 (x12_3 + 1)) a0_0 l0_1 l0_2)) else (none)) else (none)) = some r := by first | (rw [hji36] at H; exact H) | (simp only [hji36] at H ⊢; exact H)
                   have hji36_ : (IntKind.i64.wrap (1 * 2 ^ min x12_3.toNat 64)) = ji36 := hji36
                   have hji36z : x12_3 ≤ 64 → (IntKind.i64.wrap (1 * 2 ^ x12_3.toNat)) = ji36 := shl_small hji36
                   have hji36u : (IntKind.i64.wrap (2 ^ min x12_3.toNat 64)) = ji36 := by have h_ := hji36_; rw [Int.one_mul] at h_; exact h_
                   have hji36v : x12_3 ≤ 64 → (IntKind.i64.wrap (2 ^ x12_3.toNat)) = ji36 := fun hle_ => by have h_ := hji36z hle_; rw [Int.one_mul] at h_; exact h_
                   have hji36y : (wrap64 (1 * 2 ^ min x12_3.toNat 64)) = ji36 := (i64_w _).symm.trans hji36_
                   have hji36x : x12_3 ≤ 64 → (wrap64 (1 * 2 ^ x12_3.toNat)) = ji36 := fun h_ => (i64_w _).symm.trans (hji36z h_)
                   by_cases c37 : 0 ≤ (Go.bits .xor .i64 (rd x10_3 x11_2) (ji36))
                   ·
                    rw [if_pos c37] at H
                    have c37b0 : decide (0 ≤ (Go.bits .xor .i64 (rd x10_3 x11_2) (ji36))) = true := decide_eq_true c37
                    clear c37
                    by_cases c38 : (Go.bits .xor .i64 (rd x10_3 x11_2) (ji36)) < (t570.length : Int)
                    ·
                     rw [if_pos c38] at H
                     have c38b0 : decide ((Go.bits .xor .i64 (rd x10_3 x11_2) (ji36)) < (t570.length : Int)) = true := decide_eq_true c38
                     try (have c38b0hl8_2 := c38b0; simp only [hl8_2] at c38b0hl8_2)
                     try (have c38b0hl8_3 := c38b0; simp only [hl8_3] at c38b0hl8_3)
                     clear c38
                     obtain ⟨bq39, hbq39⟩ : ∃ b_ : Bool, b_ = (rdOf false t570 (Go.bits .xor .i64 (rd x10_3 x11_2) (ji36))) := ⟨_, rfl⟩
                     replace H : (if bq39 = true then (if (Go.bits .xor .i64 (rd x10_3 x11_2) (ji36)) < (x8_3.length : Int) then (if (rd x8_3 (Go.bits .xor .i64 (rd x10_3 x11_2) (ji36))) < 0 then (if 0 ≤ (rd x10_3 x11_2) then (if (rd x10_3 x11_2) < (x8_3.length : Int) then (if x10_3.length < 17592186044416 then (dropperref05_steps.l2 k3 t570 (x8_3.set ((Go.bits .xor .i64 (rd x10_3 x11_2) (ji36)) : Int).toNat (wrap64 ((rd x8_3 (rd x10_3 x11_2)) + 1))) (x10_3 ++ [Go.bits .xor .i64 (rd x10_3 x11_2) (ji36)]) x11_2 (wrap64 (x12_3 + 1)) a0_0 l0_1 l0_2) else (none)) else (none)) else (none)) else (dropperref05_steps.l2 k3 t570 x8_3 x10_3 x11_2 (wrap64 (x12_3 + 1)) a0_0 l0_1 l0_2)) else (none)) else (dropperref05_steps.l2 k3 t570 x8_3 x10_3 x11_2 (wrap64 (x12_3 + 1)) a0_0 l0_1 l0_2)) = some r := by rw [← hbq39] at H; exact H
                     have Nbq39 := Aside0.mk hbq39
                     clear hbq39
                     by_cases c40 : bq39 = true
                     ·
                      subst c40
                      have H1 : (if (Go.bits .xor .i64 (rd x10_3 x11_2) (ji36)) < (x8_3.length : Int) then (if (rd x8_3 (Go.bits .xor .i64 (rd x10_3 x11_2) (ji36))) < 0 then (if 0 ≤ (rd x10_3 x11_2) then (if (rd x10_3 x11_2) < (x8_3.length : Int) then (if x10_3.length < 17592186044416 then (dropperref05_steps.l2 k3 t570 (x8_3.set ((Go.bits .xor .i64 (rd x10_3 x11_2) (ji36)) : Int).toNat (wrap64 ((rd x8_3 (rd x10_3 x11_2)) + 1))) (x10_3 ++ [Go.bits .xor .i64 (rd x10_3 x11_2) (ji36)]) x11_2 (wrap64 (x12_3 + 1)) a0_0 l0_1 l0_2) else (none)) else (none)) else (none)) else (dropperref05_steps.l2 k3 t570 x8_3 x10_3 x11_2 (wrap64 (x12_3 + 1)) a0_0 l0_1 l0_2)) else (none)) = some r := by rw [if_pos rfl] at H; exact H
                      clear H
                      have H := H1
                      clear H1
                      by_cases c41 : (Go.bits .xor .i64 (rd x10_3 x11_2) (ji36)) < (x8_3.length : Int)
                      ·
                       rw [if_pos c41] at H
                       have c41b0 : decide ((Go.bits .xor .i64 (rd x10_3 x11_2) (ji36)) < (x8_3.length : Int)) = true := decide_eq_true c41
                       try (have c41b0hl8_2 := c41b0; simp only [hl8_2] at c41b0hl8_2)
                       try (have c41b0hl8_3 := c41b0; simp only [hl8_3] at c41b0hl8_3)
                       clear c41
                       by_cases c42 : (rd x8_3 (Go.bits .xor .i64 (rd x10_3 x11_2) (ji36))) < 0
                       ·
                        rw [if_pos c42] at H
                        have c42b0 : decide ((rd x8_3 (Go.bits .xor .i64 (rd x10_3 x11_2) (ji36))) < 0) = true := decide_eq_true c42
                        clear c42
                        by_cases c43 : 0 ≤ (rd x10_3 x11_2)
                        ·
                         rw [if_pos c43] at H
                         have c43b0 : decide (0 ≤ (rd x10_3 x11_2)) = true := decide_eq_true c43
                         clear c43
                         by_cases c44 : (rd x10_3 x11_2) < (x8_3.length : Int)
                         ·
                          rw [if_pos c44] at H
                          have c44b0 : decide ((rd x10_3 x11_2) < (x8_3.length : Int)) = true := decide_eq_true c44
                          try (have c44b0hl8_2 := c44b0; simp only [hl8_2] at c44b0hl8_2)
                          try (have c44b0hl8_3 := c44b0; simp only [hl8_3] at c44b0hl8_3)
                          clear c44
                          obtain ⟨y587, hy587⟩ : ∃ y_ : List Int, y_ = (x8_3.set ((Go.bits .xor .i64 (rd x10_3 x11_2) (ji36)) : Int).toNat (wrap64 ((rd x8_3 (rd x10_3 x11_2)) + 1))) := ⟨_, rfl⟩
                          replace H : (if x10_3.length < 17592186044416 then (dropperref05_steps.l2 k3 t570 y587 (x10_3 ++ [Go.bits .xor .i64 (rd x10_3 x11_2) (ji36)]) x11_2 (wrap64 (x12_3 + 1)) a0_0 l0_1 l0_2) else (none)) = some r := by first | (rw [hy587]; with_reducible exact H) | (have H2_ := (Option.bind_some _ _).symm.trans H; rw [hy587]; with_reducible exact H2_) | (have H2_ := (Option.bind_some _ _).symm.trans H; with_reducible exact H2_) | with_reducible exact H | (rw [hy587]; exact H) | exact H
                          have Ny587 := Aside0.mk hy587
                          clear hy587
                          by_cases c46 : x10_3.length < 17592186044416
                          ·
                           rw [if_pos c46] at H
                           have LMc46 := Aside0.mk c46
                           clear c46
                           obtain ⟨y588, hy588⟩ : ∃ y_ : List Int, y_ = (x10_3 ++ [Go.bits .xor .i64 (rd x10_3 x11_2) (ji36)]) := ⟨_, rfl⟩
                           replace H : (dropperref05_steps.l2 k3 t570 y587 y588 x11_2 (wrap64 (x12_3 + 1)) a0_0 l0_1 l0_2) = some r := by first | (rw [hy588]; with_reducible exact H) | (have H2_ := (Option.bind_some _ _).symm.trans H; rw [hy588]; with_reducible exact H2_) | (have H2_ := (Option.bind_some _ _).symm.trans H; with_reducible exact H2_) | with_reducible exact H | (rw [hy588]; exact H) | exact H
                           have Ny588 := Aside0.mk hy588
                           clear hy588
                           have H' := Aside0.mk H
                           clear H
                           have hcz47_0 := blkc BK569.out 0 (.int .i64 a0_0) rfl
                           have hcz47_1 := blkc BK569.out 1 (.slice A0_1 l0_1.length c0_1) rfl
                           have hcz47_2 := blkc BK569.out 2 (.slice A0_2 l0_2.length c0_2) rfl
                           have hfz47_0 := blk_frozen BK569.out 0
                           have hfz47_1 := blk_frozen BK569.out 1
                           have hfz47_2 := blk_frozen BK569.out 2
                           obtain ⟨Ao48, co48, eo48⟩ := Kd.R_slice HO_10.out
                           subst eo48
                           have p582 : 0 ≤ (x11_2 : Int) := of_decide_eq_true asz
                           have q582 : x11_2 < (x10_3.length : Int) := of_decide_eq_true asz
                           obtain ⟨ad582, e582, hx582_0⟩ := Kd.at_int (Kd.R_reads' HO_10.out).2.2 x11_2 p582 q582
                           cases e582
                           replace p582 := eq_true p582
                           replace q582 := eq_true q582
                           have p583 : 0 ≤ ((Go.bits .xor .i64 (rd x10_3 x11_2) (ji36)) : Int) := of_decide_eq_true asz
                           have q583 : (Go.bits .xor .i64 (rd x10_3 x11_2) (ji36)) < (t570.length : Int) := of_decide_eq_true asz
                           obtain ⟨ad583, e583, hx583_0⟩ := Kd.at_bool (Kd.R_reads' HO_7.out).2.2 (Go.bits .xor .i64 (rd x10_3 x11_2) (ji36)) p583 q583
                           (try rw [← Nbq21.out] at hx583_0)
                           (try rw [← Nbq39.out] at hx583_0)
                           obtain rfl : ad577 = ad583 := (by injection e583)
                           replace p583 := eq_true p583
                           replace q583 := eq_true q583
                           have p584 : 0 ≤ ((Go.bits .xor .i64 (rd x10_3 x11_2) (ji36)) : Int) := of_decide_eq_true asz
                           have q584 : (Go.bits .xor .i64 (rd x10_3 x11_2) (ji36)) < (x8_3.length : Int) := of_decide_eq_true asz
                           obtain ⟨ad584, e584, hx584_0⟩ := Kd.at_int (Kd.R_reads' HO_8.out).2.2 (Go.bits .xor .i64 (rd x10_3 x11_2) (ji36)) p584 q584
                           obtain rfl : (⟨go24, 0, none⟩ : Addr) = ad584 := (by injection e584)
                           (first | simp only [add_plain] at hx584_0 | simp only [add_at] at hx584_0 | simp only [Addr.add, Nat.zero_add] at hx584_0 | skip)
                           replace p584 := eq_true p584
                           replace q584 := eq_true q584
                           have p585 : 0 ≤ (x11_2 : Int) := of_decide_eq_true asz
                           have q585 : x11_2 < (x10_3.length : Int) := of_decide_eq_true asz
                           obtain ⟨ad585, e585, hx585_0⟩ := Kd.at_int (Kd.R_reads' HO_10.out).2.2 x11_2 p585 q585
                           obtain rfl : ad582 = ad585 := (by injection e585)
                           replace p585 := eq_true p585
                           replace q585 := eq_true q585
                           have p586 : 0 ≤ ((rd x10_3 x11_2) : Int) := of_decide_eq_true asz
                           have q586 : (rd x10_3 x11_2) < (x8_3.length : Int) := of_decide_eq_true asz
                           obtain ⟨ad586, e586, hx586_0⟩ := Kd.at_int (Kd.R_reads' HO_8.out).2.2 (rd x10_3 x11_2) p586 q586
                           obtain rfl : (⟨go24, 0, none⟩ : Addr) = ad586 := (by injection e586)
                           (first | simp only [add_plain] at hx586_0 | simp only [add_at] at hx586_0 | simp only [Addr.add, Nat.zero_add] at hx586_0 | skip)
                           replace p586 := eq_true p586
                           replace q586 := eq_true q586
                           have p45 : 0 ≤ ((Go.bits .xor .i64 (rd x10_3 x11_2) (ji36)) : Int) := of_decide_eq_true asz
                           have q45 : ((Go.bits .xor .i64 (rd x10_3 x11_2) (ji36)) : Int) < ((x8_3.length : Int) : Int) := of_decide_eq_true asz
                           obtain ⟨hx45_0, hf45_0⟩ := Kd.R_celln 0 HO_8.out ((Go.bits .xor .i64 (rd x10_3 x11_2) (ji36)) : Int) p45 q45
                           replace p45 := eq_true p45
                           replace q45 := eq_true q45
                           have HP49 := Kd.R_putg HO_8.out ((Go.bits .xor .i64 (rd x10_3 x11_2) (ji36)) : Int) (wrap64 ((rd x8_3 (rd x10_3 x11_2)) + 1))
                           go_upto_region 17 with (first | ((with_reducible refine gate_store (t := 3) (p := 81) rfl ?_); (try (rw [drewN_self wr]; generalize hq_ : World.drewN wr _ = wr; have n0_ := Aside0.mk (Kd.R_at hq_ HO_7.out); have n1_ := Aside0.mk (Kd.R_at hq_ HO_8.out); have n2_ := Aside0.mk (Kd.R_at hq_ HO_10.out); have n3_ := Aside0.mk (blk_at hq_ BK569.out); have n4_ := Aside0.mk (below_at hq_ HB.out); clear hq_ HO_7 HO_8 HO_10 BK569 HB; have HO_7 := n0_; have HO_8 := n1_; have HO_10 := n2_; have BK569 := n3_; have HB := n4_; clear n0_ n1_ n2_ n3_ n4_; (try (obtain ⟨hx45_0, hf45_0⟩ := Kd.R_celln 0 HO_8.out ((Go.bits .xor .i64 (rd x10_3 x11_2) (ji36)) : Int) (of_eq_true p45) (of_eq_true q45))); (try (have HP49 := Kd.R_putg HO_8.out ((Go.bits .xor .i64 (rd x10_3 x11_2) (ji36)) : Int) (wrap64 ((rd x8_3 (rd x10_3 x11_2)) + 1)))))); refine store_event (t := 3) (p := 81) (v := ?vo_w50) (w1 := (wr.setCell ⟨go24, ((Go.bits .xor .i64 (rd x10_3 x11_2) (ji36)) : Int).toNat, none⟩ (.int .i64 (wrap64 ((rd x8_3 (rd x10_3 x11_2)) + 1))))) ?hg ?ho ?hn ?hr ?_; (case ho => rfl); (case hg => rfl); (case hn => rfl); (case hr => first | (go_simp; done) | (go_simp; rfl)); intro w50 hw; have hg : wr.grownBy w50 (some go24) := (by rw [hw]; exact HP49.2); have hp_ : Kd.R (Kd.int .i64) 3 w50 w.heap.size (fun k_ => some k_ ≠ (.slice (some ad582) x10_3.length co48 : Value).ownBlock) (.slice (some ⟨go24, 0, none⟩) x8_3.length co25) y587 := (by rw [hw, Ny587.out]; exact HP49.1); clear HP49; replace HO_7 := Aside0.mk (Kd.R_over' (v := (.slice (some ⟨go24, 0, none⟩) x8_3.length co25)) (ownx HO_7) (Kd.R_typed HO_8.out) (by decide) hg); replace HO_10 := Aside0.mk (Kd.R_after (v := (.slice (some ⟨go24, 0, none⟩) x8_3.length co25)) (v1 := (.slice (some ⟨go24, 0, none⟩) x8_3.length co25)) (ok := (fun _ => True)) (by (with_reducible repeat (first | apply Kd.R_alloc | apply Kd.R_drewN | apply Kd.R_drew)); exact Kd.R_mono HO_10.out (fun _ hk => ⟨trivial, hk⟩)) hg (.inl rfl)); replace BK569 := Aside0.mk (blk_grown (g := gb569) (o := .cells #[.int .i64 a0_0, .slice A0_1 l0_1.length c0_1, .slice A0_2 l0_2.length c0_2] 25 (0, 0)) blkz hg (Kd.R_ne HO_8.out BK569.out (by decide))); replace HO_8 := Aside0.mk (hp_); replace HB := Aside0.mk ((by rw [hw]; exact below_set (HB.out) GB24.out : Below w.heap.size w w50)); clear hg hw hp_) | ((with_reducible refine gate_builtin (b := .append) (xs := #[.tmp 82, .tmp 84]) rfl ?_); at_builtin; refine Kd.R_append (Kd.int .i64) (w0 := w) w.heap.size rfl (.tmp 82) (.tmp 84) 28 3 (.int .i64 0) 8 rfl Tryd.underlying28 info3 rfl (by decide) (by omega) (.slice (some ad582) x10_3.length co48) x10_3 (Go.bits .xor .i64 (rd x10_3 x11_2) (ji36)) [.int .i64 (Go.bits .xor .i64 (rd x10_3 x11_2) (ji36))] (fun k_ => some k_ ≠ (.slice (some ⟨go24, 0, none⟩) x8_3.length co25 : Value).ownBlock) (fun _ => False) rfl rfl ?aP (fun _ hk => hk.elim) ?aF ?aO ?aB ?aS ?aL ?_; (case aP => exact rfl); (case aB => exact bel); (case aF => exact (fun k_ hk => Kd.fresh' (Kd.R_lt (ownx HO_8)) k_ hk)); (case aO => exact (by (with_reducible repeat (first | apply Kd.R_alloc | apply Kd.R_drewN | apply Kd.R_drew)); exact Kd.R_mono HO_10.out (fun _ hk => hk.2))); (case aS => exact (below_size bel)); (case aL => have := LMc46.out; omega); intro v589 w51 ho hb hg hat; rw [← Ny588.out] at ho; have n0_ := Aside0.mk (Kd.R_over' (ownx HO_7) (Kd.R_typed (ownx HO_10)) (by decide) hg); have n1_ := Aside0.mk (Kd.R_after (ok := (fun _ => True)) (by (with_reducible repeat (first | apply Kd.R_alloc | apply Kd.R_drewN | apply Kd.R_drew)); exact Kd.R_mono HO_8.out (fun _ hk => ⟨trivial, hk⟩)) hg hat); have n2_ := Aside0.mk (blk_grown (g := gb569) (o := .cells #[.int .i64 a0_0, .slice A0_1 l0_1.length c0_1, .slice A0_2 l0_2.length c0_2] 25 (0, 0)) blkz hg (Kd.R_ne HO_10.out BK569.out (by decide))); have n3_ := Aside0.mk (hb); have n4_ := Aside0.mk (ho); clear HO_7; clear HO_8; clear BK569; clear HB; clear HO_10; have HO_7 := n0_; have HO_8 := n1_; have BK569 := n2_; have HB := n3_; have HO590 := n4_; clear n0_ n1_ n2_ n3_ n4_; clear ho hb hg hat))
                           go_quiet (fail)
                           go_wp2_with (first | ((with_reducible refine gate_store (t := 3) (p := 81) rfl ?_); (try (rw [drewN_self wr]; generalize hq_ : World.drewN wr _ = wr; have n0_ := Aside0.mk (Kd.R_at hq_ HO_7.out); have n1_ := Aside0.mk (Kd.R_at hq_ HO_8.out); have n2_ := Aside0.mk (Kd.R_at hq_ HO_10.out); have n3_ := Aside0.mk (blk_at hq_ BK569.out); have n4_ := Aside0.mk (below_at hq_ HB.out); clear hq_ HO_7 HO_8 HO_10 BK569 HB; have HO_7 := n0_; have HO_8 := n1_; have HO_10 := n2_; have BK569 := n3_; have HB := n4_; clear n0_ n1_ n2_ n3_ n4_; (try (obtain ⟨hx45_0, hf45_0⟩ := Kd.R_celln 0 HO_8.out ((Go.bits .xor .i64 (rd x10_3 x11_2) (ji36)) : Int) (of_eq_true p45) (of_eq_true q45))); (try (have HP49 := Kd.R_putg HO_8.out ((Go.bits .xor .i64 (rd x10_3 x11_2) (ji36)) : Int) (wrap64 ((rd x8_3 (rd x10_3 x11_2)) + 1)))))); refine store_event (t := 3) (p := 81) (v := ?vo_w50) (w1 := (wr.setCell ⟨go24, ((Go.bits .xor .i64 (rd x10_3 x11_2) (ji36)) : Int).toNat, none⟩ (.int .i64 (wrap64 ((rd x8_3 (rd x10_3 x11_2)) + 1))))) ?hg ?ho ?hn ?hr ?_; (case ho => rfl); (case hg => rfl); (case hn => rfl); (case hr => first | (go_simp; done) | (go_simp; rfl)); intro w50 hw; have hg : wr.grownBy w50 (some go24) := (by rw [hw]; exact HP49.2); have hp_ : Kd.R (Kd.int .i64) 3 w50 w.heap.size (fun k_ => some k_ ≠ (.slice (some ad582) x10_3.length co48 : Value).ownBlock) (.slice (some ⟨go24, 0, none⟩) x8_3.length co25) y587 := (by rw [hw, Ny587.out]; exact HP49.1); clear HP49; replace HO_7 := Aside0.mk (Kd.R_over' (v := (.slice (some ⟨go24, 0, none⟩) x8_3.length co25)) (ownx HO_7) (Kd.R_typed HO_8.out) (by decide) hg); replace HO_10 := Aside0.mk (Kd.R_after (v := (.slice (some ⟨go24, 0, none⟩) x8_3.length co25)) (v1 := (.slice (some ⟨go24, 0, none⟩) x8_3.length co25)) (ok := (fun _ => True)) (by (with_reducible repeat (first | apply Kd.R_alloc | apply Kd.R_drewN | apply Kd.R_drew)); exact Kd.R_mono HO_10.out (fun _ hk => ⟨trivial, hk⟩)) hg (.inl rfl)); replace BK569 := Aside0.mk (blk_grown (g := gb569) (o := .cells #[.int .i64 a0_0, .slice A0_1 l0_1.length c0_1, .slice A0_2 l0_2.length c0_2] 25 (0, 0)) blkz hg (Kd.R_ne HO_8.out BK569.out (by decide))); replace HO_8 := Aside0.mk (hp_); replace HB := Aside0.mk ((by rw [hw]; exact below_set (HB.out) GB24.out : Below w.heap.size w w50)); clear hg hw hp_) | ((with_reducible refine gate_builtin (b := .append) (xs := #[.tmp 82, .tmp 84]) rfl ?_); at_builtin; refine Kd.R_append (Kd.int .i64) (w0 := w) w.heap.size rfl (.tmp 82) (.tmp 84) 28 3 (.int .i64 0) 8 rfl Tryd.underlying28 info3 rfl (by decide) (by omega) (.slice (some ad582) x10_3.length co48) x10_3 (Go.bits .xor .i64 (rd x10_3 x11_2) (ji36)) [.int .i64 (Go.bits .xor .i64 (rd x10_3 x11_2) (ji36))] (fun k_ => some k_ ≠ (.slice (some ⟨go24, 0, none⟩) x8_3.length co25 : Value).ownBlock) (fun _ => False) rfl rfl ?aP (fun _ hk => hk.elim) ?aF ?aO ?aB ?aS ?aL ?_; (case aP => exact rfl); (case aB => exact bel); (case aF => exact (fun k_ hk => Kd.fresh' (Kd.R_lt (ownx HO_8)) k_ hk)); (case aO => exact (by (with_reducible repeat (first | apply Kd.R_alloc | apply Kd.R_drewN | apply Kd.R_drew)); exact Kd.R_mono HO_10.out (fun _ hk => hk.2))); (case aS => exact (below_size bel)); (case aL => have := LMc46.out; omega); intro v589 w51 ho hb hg hat; rw [← Ny588.out] at ho; have n0_ := Aside0.mk (Kd.R_over' (ownx HO_7) (Kd.R_typed (ownx HO_10)) (by decide) hg); have n1_ := Aside0.mk (Kd.R_after (ok := (fun _ => True)) (by (with_reducible repeat (first | apply Kd.R_alloc | apply Kd.R_drewN | apply Kd.R_drew)); exact Kd.R_mono HO_8.out (fun _ hk => ⟨trivial, hk⟩)) hg hat); have n2_ := Aside0.mk (blk_grown (g := gb569) (o := .cells #[.int .i64 a0_0, .slice A0_1 l0_1.length c0_1, .slice A0_2 l0_2.length c0_2] 25 (0, 0)) blkz hg (Kd.R_ne HO_10.out BK569.out (by decide))); have n3_ := Aside0.mk (hb); have n4_ := Aside0.mk (ho); clear HO_7; clear HO_8; clear BK569; clear HB; clear HO_10; have HO_7 := n0_; have HO_8 := n1_; have BK569 := n2_; have HB := n3_; have HO590 := n4_; clear n0_ n1_ n2_ n3_ n4_; clear ho hb hg hat))
                           (try simp only [← hl8_3])
                           go_roundg k3
                           case measure => have := HK1.out; have := HK2.out; have := HK3.out; omega
                           case rel => exact ⟨(y587), (y588), (wrap64 (x12_3 + 1)), rsz, H', ⟨by have := HK1.out; have := HK2.out; have := HK3.out; omega⟩, ⟨by (try simp only [hl8_2]); (try simp only [hl8_3]); (with_reducible repeat (first | apply Kd.R_alloc | apply Kd.R_drewN | apply Kd.R_drew)); exact HO_7.out⟩, ⟨by (try simp only [hl8_2]); (try simp only [hl8_3]); (with_reducible repeat (first | apply Kd.R_alloc | apply Kd.R_drewN | apply Kd.R_drew)); exact Kd.R_mono HO_8.out (fun _ hk => hk.2)⟩, ⟨by (try simp only [hl8_2]); (try simp only [hl8_3]); (with_reducible repeat (first | apply Kd.R_alloc | apply Kd.R_drewN | apply Kd.R_drew)); exact HO590.out⟩, ⟨by (try simp only [hl8_2]); (try simp only [hl8_3]); (with_reducible repeat (first | refine blk_drewN ?_ _ | refine blk_drew ?_ | refine blk_alloc ?_ _)); exact BK569.out⟩, ⟨bel⟩⟩
                          ·
                           rw [if_neg c46] at H
                           exact absurd H (by simp)
                         ·
                          rw [if_neg c44] at H
                          exact absurd H (by simp)
                        ·
                         rw [if_neg c43] at H
                         exact absurd H (by simp)
                       ·
                        rw [if_neg c42] at H
                        have c42b0 : decide ((rd x8_3 (Go.bits .xor .i64 (rd x10_3 x11_2) (ji36))) < 0) = false := decide_eq_false c42
                        clear c42
                        have H' := Aside0.mk H
                        clear H
                        have hcz52_0 := blkc BK569.out 0 (.int .i64 a0_0) rfl
                        have hcz52_1 := blkc BK569.out 1 (.slice A0_1 l0_1.length c0_1) rfl
                        have hcz52_2 := blkc BK569.out 2 (.slice A0_2 l0_2.length c0_2) rfl
                        have hfz52_0 := blk_frozen BK569.out 0
                        have hfz52_1 := blk_frozen BK569.out 1
                        have hfz52_2 := blk_frozen BK569.out 2
                        obtain ⟨Ao53, co53, eo53⟩ := Kd.R_slice HO_10.out
                        subst eo53
                        have p582 : 0 ≤ (x11_2 : Int) := of_decide_eq_true asz
                        have q582 : x11_2 < (x10_3.length : Int) := of_decide_eq_true asz
                        obtain ⟨ad582, e582, hx582_0⟩ := Kd.at_int (Kd.R_reads' HO_10.out).2.2 x11_2 p582 q582
                        cases e582
                        replace p582 := eq_true p582
                        replace q582 := eq_true q582
                        have p583 : 0 ≤ ((Go.bits .xor .i64 (rd x10_3 x11_2) (ji36)) : Int) := of_decide_eq_true asz
                        have q583 : (Go.bits .xor .i64 (rd x10_3 x11_2) (ji36)) < (t570.length : Int) := of_decide_eq_true asz
                        obtain ⟨ad583, e583, hx583_0⟩ := Kd.at_bool (Kd.R_reads' HO_7.out).2.2 (Go.bits .xor .i64 (rd x10_3 x11_2) (ji36)) p583 q583
                        (try rw [← Nbq21.out] at hx583_0)
                        (try rw [← Nbq39.out] at hx583_0)
                        obtain rfl : ad577 = ad583 := (by injection e583)
                        replace p583 := eq_true p583
                        replace q583 := eq_true q583
                        have p584 : 0 ≤ ((Go.bits .xor .i64 (rd x10_3 x11_2) (ji36)) : Int) := of_decide_eq_true asz
                        have q584 : (Go.bits .xor .i64 (rd x10_3 x11_2) (ji36)) < (x8_3.length : Int) := of_decide_eq_true asz
                        obtain ⟨ad584, e584, hx584_0⟩ := Kd.at_int (Kd.R_reads' HO_8.out).2.2 (Go.bits .xor .i64 (rd x10_3 x11_2) (ji36)) p584 q584
                        obtain rfl : (⟨go24, 0, none⟩ : Addr) = ad584 := (by injection e584)
                        (first | simp only [add_plain] at hx584_0 | simp only [add_at] at hx584_0 | simp only [Addr.add, Nat.zero_add] at hx584_0 | skip)
                        replace p584 := eq_true p584
                        replace q584 := eq_true q584
                        go_wp2
                        repeat (go_quiet (fail); try go_wp2)
                        (try simp only [← hl8_3])
                        go_roundg k3
                        case measure => have := HK1.out; have := HK2.out; have := HK3.out; omega
                        case rel => exact ⟨(x8_3), (x10_3), (wrap64 (x12_3 + 1)), rsz, H', ⟨by have := HK1.out; have := HK2.out; have := HK3.out; omega⟩, ⟨by (try simp only [hl8_2]); (try simp only [hl8_3]); (with_reducible repeat (first | apply Kd.R_alloc | apply Kd.R_drewN | apply Kd.R_drew)); exact HO_7.out⟩, ⟨by (try simp only [hl8_2]); (try simp only [hl8_3]); (with_reducible repeat (first | apply Kd.R_alloc | apply Kd.R_drewN | apply Kd.R_drew)); exact HO_8.out⟩, ⟨by (try simp only [hl8_2]); (try simp only [hl8_3]); (with_reducible repeat (first | apply Kd.R_alloc | apply Kd.R_drewN | apply Kd.R_drew)); exact HO_10.out⟩, ⟨by (try simp only [hl8_2]); (try simp only [hl8_3]); (with_reducible repeat (first | refine blk_drewN ?_ _ | refine blk_drew ?_ | refine blk_alloc ?_ _)); exact BK569.out⟩, ⟨bel⟩⟩
                      ·
                       rw [if_neg c41] at H
                       exact absurd H (by simp)
                     ·
                      replace c40 := Bool.eq_false_iff.mpr c40
                      subst c40
                      have H1 : (dropperref05_steps.l2 k3 t570 x8_3 x10_3 x11_2 (wrap64 (x12_3 + 1)) a0_0 l0_1 l0_2) = some r := by rw [if_neg (show ¬ (false = true) by decide)] at H; exact H
                      clear H
                      have H := H1
                      clear H1
                      have H' := Aside0.mk H
                      clear H
                      have hcz54_0 := blkc BK569.out 0 (.int .i64 a0_0) rfl
                      have hcz54_1 := blkc BK569.out 1 (.slice A0_1 l0_1.length c0_1) rfl
                      have hcz54_2 := blkc BK569.out 2 (.slice A0_2 l0_2.length c0_2) rfl
                      have hfz54_0 := blk_frozen BK569.out 0
                      have hfz54_1 := blk_frozen BK569.out 1
                      have hfz54_2 := blk_frozen BK569.out 2
                      obtain ⟨Ao55, co55, eo55⟩ := Kd.R_slice HO_10.out
                      subst eo55
                      have p582 : 0 ≤ (x11_2 : Int) := of_decide_eq_true asz
                      have q582 : x11_2 < (x10_3.length : Int) := of_decide_eq_true asz
                      obtain ⟨ad582, e582, hx582_0⟩ := Kd.at_int (Kd.R_reads' HO_10.out).2.2 x11_2 p582 q582
                      cases e582
                      replace p582 := eq_true p582
                      replace q582 := eq_true q582
                      have p583 : 0 ≤ ((Go.bits .xor .i64 (rd x10_3 x11_2) (ji36)) : Int) := of_decide_eq_true asz
                      have q583 : (Go.bits .xor .i64 (rd x10_3 x11_2) (ji36)) < (t570.length : Int) := of_decide_eq_true asz
                      obtain ⟨ad583, e583, hx583_0⟩ := Kd.at_bool (Kd.R_reads' HO_7.out).2.2 (Go.bits .xor .i64 (rd x10_3 x11_2) (ji36)) p583 q583
                      (try rw [← Nbq21.out] at hx583_0)
                      (try rw [← Nbq39.out] at hx583_0)
                      obtain rfl : ad577 = ad583 := (by injection e583)
                      replace p583 := eq_true p583
                      replace q583 := eq_true q583
                      go_wp2
                      repeat (go_quiet (fail); try go_wp2)
                      (try simp only [← hl8_3])
                      go_roundg k3
                      case measure => have := HK1.out; have := HK2.out; have := HK3.out; omega
                      case rel => exact ⟨(x8_3), (x10_3), (wrap64 (x12_3 + 1)), rsz, H', ⟨by have := HK1.out; have := HK2.out; have := HK3.out; omega⟩, ⟨by (try simp only [hl8_2]); (try simp only [hl8_3]); (with_reducible repeat (first | apply Kd.R_alloc | apply Kd.R_drewN | apply Kd.R_drew)); exact HO_7.out⟩, ⟨by (try simp only [hl8_2]); (try simp only [hl8_3]); (with_reducible repeat (first | apply Kd.R_alloc | apply Kd.R_drewN | apply Kd.R_drew)); exact HO_8.out⟩, ⟨by (try simp only [hl8_2]); (try simp only [hl8_3]); (with_reducible repeat (first | apply Kd.R_alloc | apply Kd.R_drewN | apply Kd.R_drew)); exact HO_10.out⟩, ⟨by (try simp only [hl8_2]); (try simp only [hl8_3]); (with_reducible repeat (first | refine blk_drewN ?_ _ | refine blk_drew ?_ | refine blk_alloc ?_ _)); exact BK569.out⟩, ⟨bel⟩⟩
                    ·
                     rw [if_neg c38] at H
                     exact absurd H (by simp)
                   ·
                    rw [if_neg c37] at H
                    exact absurd H (by simp)
                  ·
                   rw [if_neg c35] at H
                   exact absurd H (by simp)
                 ·
                  rw [if_neg c34] at H
                  exact absurd H (by simp)
                ·
                 rw [if_neg c33] at H
                 exact absurd H (by simp)
               ·
                rw [if_neg c32] at H
                have c32b0 : decide (x12_3 < (l0_1.length : Int)) = false := decide_eq_false c32
                try (have c32b0hl8_2 := c32b0; simp only [hl8_2] at c32b0hl8_2)
                try (have c32b0hl8_3 := c32b0; simp only [hl8_3] at c32b0hl8_3)
                clear c32
                have H' := Aside0.mk H
                clear H
                have hcz56_0 := blkc BK569.out 0 (.int .i64 a0_0) rfl
                have hcz56_1 := blkc BK569.out 1 (.slice A0_1 l0_1.length c0_1) rfl
                have hcz56_2 := blkc BK569.out 2 (.slice A0_2 l0_2.length c0_2) rfl
                have hfz56_0 := blk_frozen BK569.out 0
                have hfz56_1 := blk_frozen BK569.out 1
                have hfz56_2 := blk_frozen BK569.out 2
                go_wp2
                repeat (go_quiet (fail); try go_wp2)
                (try simp only [← hl8_2, ← hl8_3])
                go_roundg k3
                case measure => have := HK1.out; have := HK2.out; have := HK3.out; omega
                case rel => exact ⟨(x8_3), (x10_3), (wrap64 (x11_2 + 1)), rsz, H', ⟨by have := HK1.out; have := HK2.out; have := HK3.out; omega⟩, ⟨by (try simp only [hl8_2]); (try simp only [hl8_3]); (with_reducible repeat (first | apply Kd.R_alloc | apply Kd.R_drewN | apply Kd.R_drew)); exact HO_7.out⟩, ⟨by (try simp only [hl8_2]); (try simp only [hl8_3]); (with_reducible repeat (first | apply Kd.R_alloc | apply Kd.R_drewN | apply Kd.R_drew)); exact HO_8.out⟩, ⟨by (try simp only [hl8_2]); (try simp only [hl8_3]); (with_reducible repeat (first | apply Kd.R_alloc | apply Kd.R_drewN | apply Kd.R_drew)); exact HO_10.out⟩, ⟨by (try simp only [hl8_2]); (try simp only [hl8_3]); (with_reducible repeat (first | refine blk_drewN ?_ _ | refine blk_drew ?_ | refine blk_alloc ?_ _)); exact BK569.out⟩, ⟨bel⟩⟩
            ·
             rw [if_neg c30] at H
             have c30b0 : decide (x11_2 < (x10_2.length : Int)) = false := decide_eq_false c30
             try (have c30b0hl8_2 := c30b0; simp only [hl8_2] at c30b0hl8_2)
             clear c30
             obtain rfl := Option.some.inj H
             obtain ⟨Ao57, co57, eo57⟩ := Kd.R_slice HO_10.out
             subst eo57
             go_wp2
             repeat (go_quiet (fail); try go_wp2)
             go_ret
             exact ⟨_, ezz, by (with_reducible repeat (first | apply Kd.R_alloc | apply Kd.R_drewN | apply Kd.R_drew)); exact Kd.R_mono HO_8.out (fun _ hk => trivial), bel⟩
         ·
          rw [if_neg c23] at H
          exact absurd H (by simp)
        ·
         replace c22 := Bool.eq_false_iff.mpr c22
         subst c22
         have H1 : (some x8_1) = some r := by rw [if_neg (show ¬ (false = true) by decide)] at H; exact H
         clear H
         have H := H1
         clear H1
         obtain rfl := Option.some.inj H
         obtain ⟨Ao58, co58, eo58⟩ := Kd.R_slice HO_8.out
         subst eo58
         have p577 : 0 ≤ (a1 : Int) := of_decide_eq_true asz
         have q577 : a1 < (t570.length : Int) := of_decide_eq_true asz
         obtain ⟨ad577, e577, hx577_0⟩ := Kd.at_bool (Kd.R_reads' HO_7.out).2.2 a1 p577 q577
         (try rw [← Nbq21.out] at hx577_0)
         cases e577
         replace p577 := eq_true p577
         replace q577 := eq_true q577
         go_wp2
         repeat (go_quiet (fail); try go_wp2)
         go_ret
         exact ⟨_, ezz, by (with_reducible repeat (first | apply Kd.R_alloc | apply Kd.R_drewN | apply Kd.R_drew)); exact HO_8.out, bel⟩
       ·
        rw [if_neg c20] at H
        exact absurd H (by simp)
      ·
       rw [if_neg c19] at H
       exact absurd H (by simp)
  ·
   rw [if_neg c6] at H
   exact absurd H (by simp)
 ·
  rw [if_neg c5] at H
  exact absurd H (by simp)

/-! ### dropperref05_Order: function 37 -/
mutual
def dropperref05_Order.l0 : Nat → Int → List Int → List Int → Option (List Int × Int)
 | 0, _, _, _ => none
 | k + 1, x1, x11, x12 => if 0 ≤ x1 then (if x1 < (x11.length : Int) then (if (rd x11 x1) > 0 then (dropperref05_Order.l1 k x1 x11 x12 0) else (some (x12, 0))) else (none)) else (none)
def dropperref05_Order.l1 : Nat → Int → List Int → List Int → Int → Option (List Int × Int)
 | 0, _, _, _, _ => none
 | k + 1, x1, x11, x12, x13 => if 0 ≤ x13 then (if 0 ≤ (Go.bits .xor .i64 x1 (shl .i64 1 x13)) then (if (Go.bits .xor .i64 x1 (shl .i64 1 x13)) < (x11.length : Int) then (if 0 ≤ x1 then (if x1 < (x11.length : Int) then (if (rd x11 (Go.bits .xor .i64 x1 (shl .i64 1 x13))) = (wrap64 ((rd x11 x1) - 1)) then (if x12.length < 17592186044416 then (dropperref05_Order.l0 k (Go.bits .xor .i64 x1 (shl .i64 1 x13)) x11 (x12 ++ [x13])) else (none)) else (dropperref05_Order.l1 k x1 x11 x12 (wrap64 (x13 + 1)))) else (none)) else (none)) else (none)) else (none)) else (none)
end
def dropperref05_Order.f (k : Nat) (a0_0 : Int) (l0_1 : List (S69)) (l0_2 : List (S71)) (a1 : Int) (a2 : Int) (l3 : List Int) : Option (List Int × Int) := (dropperref05_begun.f k a0_0 l0_1 l0_2 a1 l3).bind fun t592 => (if t592 = 0 then ((dropperref05_IsState.f a0_0 l0_1 l0_2 a2).bind fun t593 => (if t593 = true then ((dropperref05_steps.f k a0_0 l0_1 l0_2 a2 l3).bind fun t594 => (if 0 ≤ a1 then (if a1 < (t594.length : Int) then (if (rd t594 a1) < 0 then (some (([] : List Int), 5)) else (dropperref05_Order.l0 k a1 t594 ([] : List Int))) else (none)) else (none))) else (some (([] : List Int), 51)))) else (some (([] : List Int), t592)))
theorem dropperref05_Order.mono_l : ∀ k, (∀ y0 y1 y2, LeO (dropperref05_Order.l0 k y0 y1 y2) (dropperref05_Order.l0 (k + 1) y0 y1 y2)) ∧ (∀ y0 y1 y2 y3, LeO (dropperref05_Order.l1 k y0 y1 y2 y3) (dropperref05_Order.l1 (k + 1) y0 y1 y2 y3))
 | 0 => ⟨fun _ _ _ r h => by simp [dropperref05_Order.l0] at h, fun _ _ _ _ r h => by simp [dropperref05_Order.l1] at h⟩
 | k + 1 => by
  obtain ⟨ih0, ih1⟩ := dropperref05_Order.mono_l k
  refine ⟨?_, ?_⟩
  ·
   intro y0 y1 y2
   unfold dropperref05_Order.l0
   repeat' first
   | (with_reducible exact ih0 _ _ _)
   | (with_reducible exact ih1 _ _ _ _)
   | (with_reducible exact dropperref05_begun.mono _ _ _ _ _ _)
   | (with_reducible exact dropperref05_steps.mono _ _ _ _ _ _)
   | (with_reducible exact LeO.refl _)
   | (with_reducible exact LeO.none _)
   | (with_reducible refine LeO.ite ?_ ?_)
   | (with_reducible refine LeO.bind ?_ (fun _ => ?_))
   | exact ih0 _ _ _
   | exact ih1 _ _ _ _
   | exact dropperref05_begun.mono _ _ _ _ _ _
   | exact dropperref05_steps.mono _ _ _ _ _ _
   | exact LeO.none _
   | refine LeO.ite ?_ ?_
   | refine LeO.bind ?_ (fun _ => ?_)
  ·
   intro y0 y1 y2 y3
   unfold dropperref05_Order.l1
   repeat' first
   | (with_reducible exact ih0 _ _ _)
   | (with_reducible exact ih1 _ _ _ _)
   | (with_reducible exact dropperref05_begun.mono _ _ _ _ _ _)
   | (with_reducible exact dropperref05_steps.mono _ _ _ _ _ _)
   | (with_reducible exact LeO.refl _)
   | (with_reducible exact LeO.none _)
   | (with_reducible refine LeO.ite ?_ ?_)
   | (with_reducible refine LeO.bind ?_ (fun _ => ?_))
   | exact ih0 _ _ _
   | exact ih1 _ _ _ _
   | exact dropperref05_begun.mono _ _ _ _ _ _
   | exact dropperref05_steps.mono _ _ _ _ _ _
   | exact LeO.none _
   | refine LeO.ite ?_ ?_
   | refine LeO.bind ?_ (fun _ => ?_)
theorem dropperref05_Order.mono : ∀ a0 a1 a2 a3 a4 a5 k, LeO (dropperref05_Order.f k a0 a1 a2 a3 a4 a5) (dropperref05_Order.f (k + 1) a0 a1 a2 a3 a4 a5) := by
 intro a0 a1 a2 a3 a4 a5 k
 obtain ⟨ih0, ih1⟩ := dropperref05_Order.mono_l k
 unfold dropperref05_Order.f
 repeat' first
   | (with_reducible exact ih0 _ _ _)
   | (with_reducible exact ih1 _ _ _ _)
   | (with_reducible exact dropperref05_begun.mono _ _ _ _ _ _)
   | (with_reducible exact dropperref05_steps.mono _ _ _ _ _ _)
   | (with_reducible exact LeO.refl _)
   | (with_reducible exact LeO.none _)
   | (with_reducible refine LeO.ite ?_ ?_)
   | (with_reducible refine LeO.bind ?_ (fun _ => ?_))
   | exact ih0 _ _ _
   | exact ih1 _ _ _ _
   | exact dropperref05_begun.mono _ _ _ _ _ _
   | exact dropperref05_steps.mono _ _ _ _ _ _
   | exact LeO.none _
   | refine LeO.ite ?_ ?_
   | refine LeO.bind ?_ (fun _ => ?_)
set_option maxHeartbeats 8000000 in
set_option maxRecDepth 100000 in
theorem dropperref05_Order.calls (k : Nat) (a0_0 : Int) (A0_1 : Option Addr) (c0_1 : Nat) (l0_1 : List (S69)) (A0_2 : Option Addr) (c0_2 : Nat) (l0_2 : List (S71)) (a1 : Int) (a2 : Int) (A3 : Option Addr) (c3 : Nat) (l3 : List Int) (r1 : List Int) (r2 : Int) (w : World) (hr0_1 : Kd.C k69 w A0_1 l0_1.length l0_1) (hc0_1 : l0_1.length ≤ c0_1) (hr0_2 : Kd.C k71 w A0_2 l0_2.length l0_2) (hc0_2 : l0_2.length ≤ c0_2) (hr3 : Kd.C (Kd.int .i64) w A3 l3.length l3) (hc3 : l3.length ≤ c3) (h : dropperref05_Order.f k a0_0 l0_1 l0_2 a1 a2 l3 = some (r1, r2)) :
  Calls Tryd.prog 37 #[.agg #[.int .i64 a0_0, .slice A0_1 l0_1.length c0_1, .slice A0_2 l0_2.length c0_2], .int .i64 a1, .int .i64 a2, .slice A3 l3.length c3] w fun e w' => ∃ v0_ : Value, e = .returned (.tuple #[v0_, .int .i64 r2]) ∧ Kd.R (Kd.int .i64) 3 w' w.heap.size (fun _ => True) v0_ r1 ∧ Below w.heap.size w w' := by
 have hu25 := Tryd.underlying25
 have HR0_1 := Aside0.mk hr0_1
 have HC0_1 := Aside0.mk hc0_1
 clear hr0_1 hc0_1
 have HR0_2 := Aside0.mk hr0_2
 have HC0_2 := Aside0.mk hc0_2
 clear hr0_2 hc0_2
 have HR3 := Aside0.mk hr3
 have HC3 := Aside0.mk hc3
 clear hr3 hc3
 have HB := Aside0.mk (Below.refl w.heap.size w)
 have H : ((dropperref05_begun.f k a0_0 l0_1 l0_2 a1 l3).bind fun t592 => (if t592 = 0 then ((dropperref05_IsState.f a0_0 l0_1 l0_2 a2).bind fun t593 => (if t593 = true then ((dropperref05_steps.f k a0_0 l0_1 l0_2 a2 l3).bind fun t594 => (if 0 ≤ a1 then (if a1 < (t594.length : Int) then (if (rd t594 a1) < 0 then (some (([] : List Int), 5)) else (dropperref05_Order.l0 k a1 t594 ([] : List Int))) else (none)) else (none))) else (some (([] : List Int), 51)))) else (some (([] : List Int), t592)))) = some (r1, r2) := h
 clear h
 replace H := Option.bind_eq_some_iff.mp H
 obtain ⟨t592, A50, H⟩ := H
 replace H : (if t592 = 0 then ((dropperref05_IsState.f a0_0 l0_1 l0_2 a2).bind fun t593 => (if t593 = true then ((dropperref05_steps.f k a0_0 l0_1 l0_2 a2 l3).bind fun t594 => (if 0 ≤ a1 then (if a1 < (t594.length : Int) then (if (rd t594 a1) < 0 then (some (([] : List Int), 5)) else (dropperref05_Order.l0 k a1 t594 ([] : List Int))) else (none)) else (none))) else (some (([] : List Int), 51)))) else (some (([] : List Int), t592))) = some (r1, r2) := H
 have A5 := Aside0.mk A50
 clear A50
 by_cases c6 : t592 = 0
 ·
  rw [if_pos c6] at H
  have c6b0 : (t592 == 0) = true := beq_iff_eq.mpr c6
  have c6b1 : (t592 != 0) = false := bne_eq_false_iff_eq.mpr c6
  clear c6
  replace H := Option.bind_eq_some_iff.mp H
  obtain ⟨t593, A70, H⟩ := H
  replace H : (if t593 = true then ((dropperref05_steps.f k a0_0 l0_1 l0_2 a2 l3).bind fun t594 => (if 0 ≤ a1 then (if a1 < (t594.length : Int) then (if (rd t594 a1) < 0 then (some (([] : List Int), 5)) else (dropperref05_Order.l0 k a1 t594 ([] : List Int))) else (none)) else (none))) else (some (([] : List Int), 51))) = some (r1, r2) := H
  have A7 := Aside0.mk A70
  clear A70
  by_cases c8 : t593 = true
  ·
   subst c8
   have H1 : ((dropperref05_steps.f k a0_0 l0_1 l0_2 a2 l3).bind fun t594 => (if 0 ≤ a1 then (if a1 < (t594.length : Int) then (if (rd t594 a1) < 0 then (some (([] : List Int), 5)) else (dropperref05_Order.l0 k a1 t594 ([] : List Int))) else (none)) else (none))) = some (r1, r2) := by rw [if_pos rfl] at H; exact H
   clear H
   have H := H1
   clear H1
   replace H := Option.bind_eq_some_iff.mp H
   obtain ⟨t594, A90, H⟩ := H
   replace H : (if 0 ≤ a1 then (if a1 < (t594.length : Int) then (if (rd t594 a1) < 0 then (some (([] : List Int), 5)) else (dropperref05_Order.l0 k a1 t594 ([] : List Int))) else (none)) else (none)) = some (r1, r2) := H
   have A9 := Aside0.mk A90
   clear A90
   by_cases c10 : 0 ≤ a1
   ·
    rw [if_pos c10] at H
    have c10b0 : decide (0 ≤ a1) = true := decide_eq_true c10
    clear c10
    by_cases c11 : a1 < (t594.length : Int)
    ·
     rw [if_pos c11] at H
     have c11b0 : decide (a1 < (t594.length : Int)) = true := decide_eq_true c11
     clear c11
     by_cases c12 : (rd t594 a1) < 0
     ·
      rw [if_pos c12] at H
      have c12b0 : decide ((rd t594 a1) < 0) = true := decide_eq_true c12
      clear c12
      simp only [Option.some.injEq, Prod.mk.injEq] at H
      obtain ⟨rfl, rfl⟩ := H
      go_enter Tryd.func37, Tryd.ntmps37
      go_wp2_with (first | ((with_reducible refine gate_dst (N := 4) rfl ?_); refine box_event ?hg (N := 4) ?hd (cs := #[.int .i64 a0_0, .slice A0_1 l0_1.length c0_1, .slice A0_2 l0_2.length c0_2]) (t := 25) ?hr ?_; (case hd => rfl); (case hg => rfl); (case hr => first | (go_simp; done) | (go_simp; rfl)); intro gb591 hg w13 hbox hb; have BK591 := Aside0.mk (hbox); have GW591 := bsz (w := w) hg; have GE591 := GW591; replace HB := Aside0.mk (below_step bel hb); clear hb hbox hg; have hcz14_0 := blkc BK591.out 0 (.int .i64 a0_0) rfl; have hcz14_1 := blkc BK591.out 1 (.slice A0_1 l0_1.length c0_1) rfl; have hcz14_2 := blkc BK591.out 2 (.slice A0_2 l0_2.length c0_2) rfl) | (go_at_call 72; (with_reducible refine (dropperref05_begun.calls k a0_0 _ _ l0_1 _ _ l0_2 a1 _ _ l3 t592 _ ?side1 ?side2 ?side3 ?side4 ?side5 ?side6 A5.out).mono ?_); (case side1 => exact cbz HR0_1); (case side2 => exact HC0_1.out); (case side3 => exact cbz HR0_2); (case side4 => exact HC0_2.out); (case side5 => exact cbz HR3); (case side6 => exact HC3.out); rintro e w15 ⟨rfl, hb⟩; replace BK591 := Aside0.mk (blk_below (g := gb591) blkz hb); replace HB := Aside0.mk (below_step bel hb); (try clear hb); (try clear hb2); (try clear hk); (try clear hi); have hcz16_0 := blkc BK591.out 0 (.int .i64 a0_0) rfl; have hcz16_1 := blkc BK591.out 1 (.slice A0_1 l0_1.length c0_1) rfl; have hcz16_2 := blkc BK591.out 2 (.slice A0_2 l0_2.length c0_2) rfl) | (go_at_call 76; (with_reducible refine (dropperref05_IsState.calls a0_0 _ _ l0_1 _ _ l0_2 a2 true _ ?side1 ?side2 ?side3 ?side4 A7.out).mono ?_); (case side1 => exact cbz HR0_1); (case side2 => exact HC0_1.out); (case side3 => exact cbz HR0_2); (case side4 => exact HC0_2.out); rintro e w17 ⟨rfl, hb⟩; replace BK591 := Aside0.mk (blk_below (g := gb591) blkz hb); replace HB := Aside0.mk (below_step bel hb); (try clear hb); (try clear hb2); (try clear hk); (try clear hi); have hcz18_0 := blkc BK591.out 0 (.int .i64 a0_0) rfl; have hcz18_1 := blkc BK591.out 1 (.slice A0_1 l0_1.length c0_1) rfl; have hcz18_2 := blkc BK591.out 2 (.slice A0_2 l0_2.length c0_2) rfl) | (go_at_call 77; (with_reducible refine (dropperref05_steps.calls k a0_0 _ _ l0_1 _ _ l0_2 a2 _ _ l3 t594 _ ?side1 ?side2 ?side3 ?side4 ?side5 ?side6 A9.out).mono ?_); (case side1 => exact cbz HR0_1); (case side2 => exact HC0_1.out); (case side3 => exact cbz HR0_2); (case side4 => exact HC0_2.out); (case side5 => exact cbz HR3); (case side6 => exact HC3.out); rintro e w19 ⟨v595, rfl, ho0, hb⟩; have HO596 := Aside0.mk (Kd.R_lower ho0 (below_size bel)); replace BK591 := Aside0.mk (blk_below (g := gb591) blkz hb); replace HB := Aside0.mk (below_step bel hb); (try clear hb); (try clear hb2); (try clear hk); (try clear hi); (try clear ho0); obtain ⟨Ao20, co20, eo20⟩ := Kd.R_slice HO596.out; subst eo20; have p597 : 0 ≤ (a1 : Int) := of_decide_eq_true asz; have q597 : a1 < (t594.length : Int) := of_decide_eq_true asz; obtain ⟨ad597, e597, hx597_0⟩ := Kd.at_int (Kd.R_reads' HO596.out).2.2 a1 p597 q597; cases e597; replace p597 := eq_true p597; replace q597 := eq_true q597))
      repeat (go_quiet (first | ((with_reducible refine gate_dst (N := 4) rfl ?_); refine box_event ?hg (N := 4) ?hd (cs := #[.int .i64 a0_0, .slice A0_1 l0_1.length c0_1, .slice A0_2 l0_2.length c0_2]) (t := 25) ?hr ?_; (case hd => rfl); (case hg => rfl); (case hr => first | (go_simp; done) | (go_simp; rfl)); intro gb591 hg w13 hbox hb; have BK591 := Aside0.mk (hbox); have GW591 := bsz (w := w) hg; have GE591 := GW591; replace HB := Aside0.mk (below_step bel hb); clear hb hbox hg; have hcz14_0 := blkc BK591.out 0 (.int .i64 a0_0) rfl; have hcz14_1 := blkc BK591.out 1 (.slice A0_1 l0_1.length c0_1) rfl; have hcz14_2 := blkc BK591.out 2 (.slice A0_2 l0_2.length c0_2) rfl) | (go_at_call 72; (with_reducible refine (dropperref05_begun.calls k a0_0 _ _ l0_1 _ _ l0_2 a1 _ _ l3 t592 _ ?side1 ?side2 ?side3 ?side4 ?side5 ?side6 A5.out).mono ?_); (case side1 => exact cbz HR0_1); (case side2 => exact HC0_1.out); (case side3 => exact cbz HR0_2); (case side4 => exact HC0_2.out); (case side5 => exact cbz HR3); (case side6 => exact HC3.out); rintro e w15 ⟨rfl, hb⟩; replace BK591 := Aside0.mk (blk_below (g := gb591) blkz hb); replace HB := Aside0.mk (below_step bel hb); (try clear hb); (try clear hb2); (try clear hk); (try clear hi); have hcz16_0 := blkc BK591.out 0 (.int .i64 a0_0) rfl; have hcz16_1 := blkc BK591.out 1 (.slice A0_1 l0_1.length c0_1) rfl; have hcz16_2 := blkc BK591.out 2 (.slice A0_2 l0_2.length c0_2) rfl) | (go_at_call 76; (with_reducible refine (dropperref05_IsState.calls a0_0 _ _ l0_1 _ _ l0_2 a2 true _ ?side1 ?side2 ?side3 ?side4 A7.out).mono ?_); (case side1 => exact cbz HR0_1); (case side2 => exact HC0_1.out); (case side3 => exact cbz HR0_2); (case side4 => exact HC0_2.out); rintro e w17 ⟨rfl, hb⟩; replace BK591 := Aside0.mk (blk_below (g := gb591) blkz hb); replace HB := Aside0.mk (below_step bel hb); (try clear hb); (try clear hb2); (try clear hk); (try clear hi); have hcz18_0 := blkc BK591.out 0 (.int .i64 a0_0) rfl; have hcz18_1 := blkc BK591.out 1 (.slice A0_1 l0_1.length c0_1) rfl; have hcz18_2 := blkc BK591.out 2 (.slice A0_2 l0_2.length c0_2) rfl) | (go_at_call 77; (with_reducible refine (dropperref05_steps.calls k a0_0 _ _ l0_1 _ _ l0_2 a2 _ _ l3 t594 _ ?side1 ?side2 ?side3 ?side4 ?side5 ?side6 A9.out).mono ?_); (case side1 => exact cbz HR0_1); (case side2 => exact HC0_1.out); (case side3 => exact cbz HR0_2); (case side4 => exact HC0_2.out); (case side5 => exact cbz HR3); (case side6 => exact HC3.out); rintro e w19 ⟨v595, rfl, ho0, hb⟩; have HO596 := Aside0.mk (Kd.R_lower ho0 (below_size bel)); replace BK591 := Aside0.mk (blk_below (g := gb591) blkz hb); replace HB := Aside0.mk (below_step bel hb); (try clear hb); (try clear hb2); (try clear hk); (try clear hi); (try clear ho0); obtain ⟨Ao20, co20, eo20⟩ := Kd.R_slice HO596.out; subst eo20; have p597 : 0 ≤ (a1 : Int) := of_decide_eq_true asz; have q597 : a1 < (t594.length : Int) := of_decide_eq_true asz; obtain ⟨ad597, e597, hx597_0⟩ := Kd.at_int (Kd.R_reads' HO596.out).2.2 a1 p597 q597; cases e597; replace p597 := eq_true p597; replace q597 := eq_true q597)); try go_wp2_with (first | ((with_reducible refine gate_dst (N := 4) rfl ?_); refine box_event ?hg (N := 4) ?hd (cs := #[.int .i64 a0_0, .slice A0_1 l0_1.length c0_1, .slice A0_2 l0_2.length c0_2]) (t := 25) ?hr ?_; (case hd => rfl); (case hg => rfl); (case hr => first | (go_simp; done) | (go_simp; rfl)); intro gb591 hg w13 hbox hb; have BK591 := Aside0.mk (hbox); have GW591 := bsz (w := w) hg; have GE591 := GW591; replace HB := Aside0.mk (below_step bel hb); clear hb hbox hg; have hcz14_0 := blkc BK591.out 0 (.int .i64 a0_0) rfl; have hcz14_1 := blkc BK591.out 1 (.slice A0_1 l0_1.length c0_1) rfl; have hcz14_2 := blkc BK591.out 2 (.slice A0_2 l0_2.length c0_2) rfl) | (go_at_call 72; (with_reducible refine (dropperref05_begun.calls k a0_0 _ _ l0_1 _ _ l0_2 a1 _ _ l3 t592 _ ?side1 ?side2 ?side3 ?side4 ?side5 ?side6 A5.out).mono ?_); (case side1 => exact cbz HR0_1); (case side2 => exact HC0_1.out); (case side3 => exact cbz HR0_2); (case side4 => exact HC0_2.out); (case side5 => exact cbz HR3); (case side6 => exact HC3.out); rintro e w15 ⟨rfl, hb⟩; replace BK591 := Aside0.mk (blk_below (g := gb591) blkz hb); replace HB := Aside0.mk (below_step bel hb); (try clear hb); (try clear hb2); (try clear hk); (try clear hi); have hcz16_0 := blkc BK591.out 0 (.int .i64 a0_0) rfl; have hcz16_1 := blkc BK591.out 1 (.slice A0_1 l0_1.length c0_1) rfl; have hcz16_2 := blkc BK591.out 2 (.slice A0_2 l0_2.length c0_2) rfl) | (go_at_call 76; (with_reducible refine (dropperref05_IsState.calls a0_0 _ _ l0_1 _ _ l0_2 a2 true _ ?side1 ?side2 ?side3 ?side4 A7.out).mono ?_); (case side1 => exact cbz HR0_1); (case side2 => exact HC0_1.out); (case side3 => exact cbz HR0_2); (case side4 => exact HC0_2.out); rintro e w17 ⟨rfl, hb⟩; replace BK591 := Aside0.mk (blk_below (g := gb591) blkz hb); replace HB := Aside0.mk (below_step bel hb); (try clear hb); (try clear hb2); (try clear hk); (try clear hi); have hcz18_0 := blkc BK591.out 0 (.int .i64 a0_0) rfl; have hcz18_1 := blkc BK591.out 1 (.slice A0_1 l0_1.length c0_1) rfl; have hcz18_2 := blkc BK591.out 2 (.slice A0_2 l0_2.length c0_2) rfl) | (go_at_call 77; (with_reducible refine (dropperref05_steps.calls k a0_0 _ _ l0_1 _ _ l0_2 a2 _ _ l3 t594 _ ?side1 ?side2 ?side3 ?side4 ?side5 ?side6 A9.out).mono ?_); (case side1 => exact cbz HR0_1); (case side2 => exact HC0_1.out); (case side3 => exact cbz HR0_2); (case side4 => exact HC0_2.out); (case side5 => exact cbz HR3); (case side6 => exact HC3.out); rintro e w19 ⟨v595, rfl, ho0, hb⟩; have HO596 := Aside0.mk (Kd.R_lower ho0 (below_size bel)); replace BK591 := Aside0.mk (blk_below (g := gb591) blkz hb); replace HB := Aside0.mk (below_step bel hb); (try clear hb); (try clear hb2); (try clear hk); (try clear hi); (try clear ho0); obtain ⟨Ao20, co20, eo20⟩ := Kd.R_slice HO596.out; subst eo20; have p597 : 0 ≤ (a1 : Int) := of_decide_eq_true asz; have q597 : a1 < (t594.length : Int) := of_decide_eq_true asz; obtain ⟨ad597, e597, hx597_0⟩ := Kd.at_int (Kd.R_reads' HO596.out).2.2 a1 p597 q597; cases e597; replace p597 := eq_true p597; replace q597 := eq_true q597)))
      go_ret2
      exact ⟨_, ezz, by first | exact Kd.R_nil _ _ _ _ _ | exact Kd.N_nil _ _ _ _ _ | exact Kd.V_nil _ _ _ _ _ | exact Kd.Q_nil _ _ _ _ _ | exact Kd.S_nil _ _ _ _ _, bel⟩
     ·
      rw [if_neg c12] at H
      have c12b0 : decide ((rd t594 a1) < 0) = false := decide_eq_false c12
      clear c12
      have H' := Aside0.mk H
      clear H
      go_enter Tryd.func37, Tryd.ntmps37
      go_wp2_with (first | ((with_reducible refine gate_dst (N := 4) rfl ?_); refine box_event ?hg (N := 4) ?hd (cs := #[.int .i64 a0_0, .slice A0_1 l0_1.length c0_1, .slice A0_2 l0_2.length c0_2]) (t := 25) ?hr ?_; (case hd => rfl); (case hg => rfl); (case hr => first | (go_simp; done) | (go_simp; rfl)); intro gb591 hg w21 hbox hb; have BK591 := Aside0.mk (hbox); have GW591 := bsz (w := w) hg; have GE591 := GW591; replace HB := Aside0.mk (below_step bel hb); clear hb hbox hg; have hcz22_0 := blkc BK591.out 0 (.int .i64 a0_0) rfl; have hcz22_1 := blkc BK591.out 1 (.slice A0_1 l0_1.length c0_1) rfl; have hcz22_2 := blkc BK591.out 2 (.slice A0_2 l0_2.length c0_2) rfl) | (go_at_call 72; (with_reducible refine (dropperref05_begun.calls k a0_0 _ _ l0_1 _ _ l0_2 a1 _ _ l3 t592 _ ?side1 ?side2 ?side3 ?side4 ?side5 ?side6 A5.out).mono ?_); (case side1 => exact cbz HR0_1); (case side2 => exact HC0_1.out); (case side3 => exact cbz HR0_2); (case side4 => exact HC0_2.out); (case side5 => exact cbz HR3); (case side6 => exact HC3.out); rintro e w23 ⟨rfl, hb⟩; replace BK591 := Aside0.mk (blk_below (g := gb591) blkz hb); replace HB := Aside0.mk (below_step bel hb); (try clear hb); (try clear hb2); (try clear hk); (try clear hi); have hcz24_0 := blkc BK591.out 0 (.int .i64 a0_0) rfl; have hcz24_1 := blkc BK591.out 1 (.slice A0_1 l0_1.length c0_1) rfl; have hcz24_2 := blkc BK591.out 2 (.slice A0_2 l0_2.length c0_2) rfl) | (go_at_call 76; (with_reducible refine (dropperref05_IsState.calls a0_0 _ _ l0_1 _ _ l0_2 a2 true _ ?side1 ?side2 ?side3 ?side4 A7.out).mono ?_); (case side1 => exact cbz HR0_1); (case side2 => exact HC0_1.out); (case side3 => exact cbz HR0_2); (case side4 => exact HC0_2.out); rintro e w25 ⟨rfl, hb⟩; replace BK591 := Aside0.mk (blk_below (g := gb591) blkz hb); replace HB := Aside0.mk (below_step bel hb); (try clear hb); (try clear hb2); (try clear hk); (try clear hi); have hcz26_0 := blkc BK591.out 0 (.int .i64 a0_0) rfl; have hcz26_1 := blkc BK591.out 1 (.slice A0_1 l0_1.length c0_1) rfl; have hcz26_2 := blkc BK591.out 2 (.slice A0_2 l0_2.length c0_2) rfl) | (go_at_call 77; (with_reducible refine (dropperref05_steps.calls k a0_0 _ _ l0_1 _ _ l0_2 a2 _ _ l3 t594 _ ?side1 ?side2 ?side3 ?side4 ?side5 ?side6 A9.out).mono ?_); (case side1 => exact cbz HR0_1); (case side2 => exact HC0_1.out); (case side3 => exact cbz HR0_2); (case side4 => exact HC0_2.out); (case side5 => exact cbz HR3); (case side6 => exact HC3.out); rintro e w27 ⟨v595, rfl, ho0, hb⟩; have HO596 := Aside0.mk (Kd.R_lower ho0 (below_size bel)); replace BK591 := Aside0.mk (blk_below (g := gb591) blkz hb); replace HB := Aside0.mk (below_step bel hb); (try clear hb); (try clear hb2); (try clear hk); (try clear hi); (try clear ho0); obtain ⟨Ao28, co28, eo28⟩ := Kd.R_slice HO596.out; subst eo28; have p597 : 0 ≤ (a1 : Int) := of_decide_eq_true asz; have q597 : a1 < (t594.length : Int) := of_decide_eq_true asz; obtain ⟨ad597, e597, hx597_0⟩ := Kd.at_int (Kd.R_reads' HO596.out).2.2 a1 p597 q597; cases e597; replace p597 := eq_true p597; replace q597 := eq_true q597))
      repeat (go_quiet (first | ((with_reducible refine gate_dst (N := 4) rfl ?_); refine box_event ?hg (N := 4) ?hd (cs := #[.int .i64 a0_0, .slice A0_1 l0_1.length c0_1, .slice A0_2 l0_2.length c0_2]) (t := 25) ?hr ?_; (case hd => rfl); (case hg => rfl); (case hr => first | (go_simp; done) | (go_simp; rfl)); intro gb591 hg w21 hbox hb; have BK591 := Aside0.mk (hbox); have GW591 := bsz (w := w) hg; have GE591 := GW591; replace HB := Aside0.mk (below_step bel hb); clear hb hbox hg; have hcz22_0 := blkc BK591.out 0 (.int .i64 a0_0) rfl; have hcz22_1 := blkc BK591.out 1 (.slice A0_1 l0_1.length c0_1) rfl; have hcz22_2 := blkc BK591.out 2 (.slice A0_2 l0_2.length c0_2) rfl) | (go_at_call 72; (with_reducible refine (dropperref05_begun.calls k a0_0 _ _ l0_1 _ _ l0_2 a1 _ _ l3 t592 _ ?side1 ?side2 ?side3 ?side4 ?side5 ?side6 A5.out).mono ?_); (case side1 => exact cbz HR0_1); (case side2 => exact HC0_1.out); (case side3 => exact cbz HR0_2); (case side4 => exact HC0_2.out); (case side5 => exact cbz HR3); (case side6 => exact HC3.out); rintro e w23 ⟨rfl, hb⟩; replace BK591 := Aside0.mk (blk_below (g := gb591) blkz hb); replace HB := Aside0.mk (below_step bel hb); (try clear hb); (try clear hb2); (try clear hk); (try clear hi); have hcz24_0 := blkc BK591.out 0 (.int .i64 a0_0) rfl; have hcz24_1 := blkc BK591.out 1 (.slice A0_1 l0_1.length c0_1) rfl; have hcz24_2 := blkc BK591.out 2 (.slice A0_2 l0_2.length c0_2) rfl) | (go_at_call 76; (with_reducible refine (dropperref05_IsState.calls a0_0 _ _ l0_1 _ _ l0_2 a2 true _ ?side1 ?side2 ?side3 ?side4 A7.out).mono ?_); (case side1 => exact cbz HR0_1); (case side2 => exact HC0_1.out); (case side3 => exact cbz HR0_2); (case side4 => exact HC0_2.out); rintro e w25 ⟨rfl, hb⟩; replace BK591 := Aside0.mk (blk_below (g := gb591) blkz hb); replace HB := Aside0.mk (below_step bel hb); (try clear hb); (try clear hb2); (try clear hk); (try clear hi); have hcz26_0 := blkc BK591.out 0 (.int .i64 a0_0) rfl; have hcz26_1 := blkc BK591.out 1 (.slice A0_1 l0_1.length c0_1) rfl; have hcz26_2 := blkc BK591.out 2 (.slice A0_2 l0_2.length c0_2) rfl) | (go_at_call 77; (with_reducible refine (dropperref05_steps.calls k a0_0 _ _ l0_1 _ _ l0_2 a2 _ _ l3 t594 _ ?side1 ?side2 ?side3 ?side4 ?side5 ?side6 A9.out).mono ?_); (case side1 => exact cbz HR0_1); (case side2 => exact HC0_1.out); (case side3 => exact cbz HR0_2); (case side4 => exact HC0_2.out); (case side5 => exact cbz HR3); (case side6 => exact HC3.out); rintro e w27 ⟨v595, rfl, ho0, hb⟩; have HO596 := Aside0.mk (Kd.R_lower ho0 (below_size bel)); replace BK591 := Aside0.mk (blk_below (g := gb591) blkz hb); replace HB := Aside0.mk (below_step bel hb); (try clear hb); (try clear hb2); (try clear hk); (try clear hi); (try clear ho0); obtain ⟨Ao28, co28, eo28⟩ := Kd.R_slice HO596.out; subst eo28; have p597 : 0 ≤ (a1 : Int) := of_decide_eq_true asz; have q597 : a1 < (t594.length : Int) := of_decide_eq_true asz; obtain ⟨ad597, e597, hx597_0⟩ := Kd.at_int (Kd.R_reads' HO596.out).2.2 a1 p597 q597; cases e597; replace p597 := eq_true p597; replace q597 := eq_true q597)); try go_wp2_with (first | ((with_reducible refine gate_dst (N := 4) rfl ?_); refine box_event ?hg (N := 4) ?hd (cs := #[.int .i64 a0_0, .slice A0_1 l0_1.length c0_1, .slice A0_2 l0_2.length c0_2]) (t := 25) ?hr ?_; (case hd => rfl); (case hg => rfl); (case hr => first | (go_simp; done) | (go_simp; rfl)); intro gb591 hg w21 hbox hb; have BK591 := Aside0.mk (hbox); have GW591 := bsz (w := w) hg; have GE591 := GW591; replace HB := Aside0.mk (below_step bel hb); clear hb hbox hg; have hcz22_0 := blkc BK591.out 0 (.int .i64 a0_0) rfl; have hcz22_1 := blkc BK591.out 1 (.slice A0_1 l0_1.length c0_1) rfl; have hcz22_2 := blkc BK591.out 2 (.slice A0_2 l0_2.length c0_2) rfl) | (go_at_call 72; (with_reducible refine (dropperref05_begun.calls k a0_0 _ _ l0_1 _ _ l0_2 a1 _ _ l3 t592 _ ?side1 ?side2 ?side3 ?side4 ?side5 ?side6 A5.out).mono ?_); (case side1 => exact cbz HR0_1); (case side2 => exact HC0_1.out); (case side3 => exact cbz HR0_2); (case side4 => exact HC0_2.out); (case side5 => exact cbz HR3); (case side6 => exact HC3.out); rintro e w23 ⟨rfl, hb⟩; replace BK591 := Aside0.mk (blk_below (g := gb591) blkz hb); replace HB := Aside0.mk (below_step bel hb); (try clear hb); (try clear hb2); (try clear hk); (try clear hi); have hcz24_0 := blkc BK591.out 0 (.int .i64 a0_0) rfl; have hcz24_1 := blkc BK591.out 1 (.slice A0_1 l0_1.length c0_1) rfl; have hcz24_2 := blkc BK591.out 2 (.slice A0_2 l0_2.length c0_2) rfl) | (go_at_call 76; (with_reducible refine (dropperref05_IsState.calls a0_0 _ _ l0_1 _ _ l0_2 a2 true _ ?side1 ?side2 ?side3 ?side4 A7.out).mono ?_); (case side1 => exact cbz HR0_1); (case side2 => exact HC0_1.out); (case side3 => exact cbz HR0_2); (case side4 => exact HC0_2.out); rintro e w25 ⟨rfl, hb⟩; replace BK591 := Aside0.mk (blk_below (g := gb591) blkz hb); replace HB := Aside0.mk (below_step bel hb); (try clear hb); (try clear hb2); (try clear hk); (try clear hi); have hcz26_0 := blkc BK591.out 0 (.int .i64 a0_0) rfl; have hcz26_1 := blkc BK591.out 1 (.slice A0_1 l0_1.length c0_1) rfl; have hcz26_2 := blkc BK591.out 2 (.slice A0_2 l0_2.length c0_2) rfl) | (go_at_call 77; (with_reducible refine (dropperref05_steps.calls k a0_0 _ _ l0_1 _ _ l0_2 a2 _ _ l3 t594 _ ?side1 ?side2 ?side3 ?side4 ?side5 ?side6 A9.out).mono ?_); (case side1 => exact cbz HR0_1); (case side2 => exact HC0_1.out); (case side3 => exact cbz HR0_2); (case side4 => exact HC0_2.out); (case side5 => exact cbz HR3); (case side6 => exact HC3.out); rintro e w27 ⟨v595, rfl, ho0, hb⟩; have HO596 := Aside0.mk (Kd.R_lower ho0 (below_size bel)); replace BK591 := Aside0.mk (blk_below (g := gb591) blkz hb); replace HB := Aside0.mk (below_step bel hb); (try clear hb); (try clear hb2); (try clear hk); (try clear hi); (try clear ho0); obtain ⟨Ao28, co28, eo28⟩ := Kd.R_slice HO596.out; subst eo28; have p597 : 0 ≤ (a1 : Int) := of_decide_eq_true asz; have q597 : a1 < (t594.length : Int) := of_decide_eq_true asz; obtain ⟨ad597, e597, hx597_0⟩ := Kd.at_int (Kd.R_reads' HO596.out).2.2 a1 p597 q597; cases e597; replace p597 := eq_true p597; replace q597 := eq_true q597)))
      go_loopg [1, 12] k (fun kq v1 v12 w' => ∃ (x1_1 : Int) (x12_1 : List Int), v1 = .int .i64 x1_1 ∧ Aside0 (dropperref05_Order.l0 kq x1_1 t594 x12_1 = some (r1, r2)) ∧ Aside0 (kq ≤ k) ∧ Aside0 (Kd.R (Kd.int .i64) 3 w' w.heap.size (fun k_ => some k_ ≠ (v12 : Value).ownBlock) (.slice (some ad597) t594.length co28) t594) ∧ Aside0 (Kd.R (Kd.int .i64) 3 w' w.heap.size (fun k_ => some k_ ≠ ((.slice (some ad597) t594.length co28) : Value).ownBlock) v12 x12_1) ∧ Aside0 (w'.heap[gb591]? = some (.cells #[.int .i64 a0_0, (.slice A0_1 l0_1.length c0_1), (.slice A0_2 l0_2.length c0_2)] 25 (0, 0))) ∧ Aside0 (Below w.heap.size w w'))
      case atStart => exact ⟨(a1), (([] : List Int)), rsz, H', ⟨Nat.le_refl _⟩, ⟨by (with_reducible repeat (first | apply Kd.R_alloc | apply Kd.R_drewN | apply Kd.R_drew)); exact Kd.R_mono HO596.out (fun _ hk => (by simp [Value.ownBlock]))⟩, ⟨by first | exact Kd.R_nil _ _ _ _ _ | exact Kd.N_nil _ _ _ _ _ | exact Kd.V_nil _ _ _ _ _ | exact Kd.Q_nil _ _ _ _ _ | exact Kd.S_nil _ _ _ _ _⟩, ⟨blkz⟩, ⟨bel⟩⟩
      case round =>
       clear H'
       try clear c1
       try clear p2
       try clear c3
       try clear p5
       try clear q5
       try clear hx5
       try clear c6
       try clear c6b0
       try clear c6b1
       try clear c8
       try clear c10
       try clear c10b0
       try clear c11
       try clear c11b0
       try clear c12
       try clear c12b0
       try clear hcz14_0
       try clear hcz14_1
       try clear hcz14_2
       try clear hcz16_0
       try clear hcz16_1
       try clear hcz16_2
       try clear hcz18_0
       try clear hcz18_1
       try clear hcz18_2
       try clear hcz22_0
       try clear hcz22_1
       try clear hcz22_2
       try clear hcz24_0
       try clear hcz24_1
       try clear hcz24_2
       try clear hcz26_0
       try clear hcz26_1
       try clear hcz26_2
       try clear hfz14_0
       try clear hfz14_1
       try clear hfz14_2
       try clear hfz16_0
       try clear hfz16_1
       try clear hfz16_2
       try clear hfz18_0
       try clear hfz18_1
       try clear hfz18_2
       try clear hfz22_0
       try clear hfz22_1
       try clear hfz22_2
       try clear hfz24_0
       try clear hfz24_1
       try clear hfz24_2
       try clear hfz26_0
       try clear hfz26_1
       try clear hfz26_2
       try clear hx597_0
       try clear p597
       try clear q597
       obtain ⟨x1_1, x12_1, rfl, HA, HK1, HO_11, HO_12, BK591, HB⟩ := hrel
       cases gk with
       | zero => exact absurd HA.out (by simp [dropperref05_Order.l0])
       | succ k1 =>
        have H := HA.out
        clear HA
        simp only [dropperref05_Order.l0] at H
        by_cases c29 : 0 ≤ x1_1
        ·
         rw [if_pos c29] at H
         have c29b0 : decide (0 ≤ x1_1) = true := decide_eq_true c29
         clear c29
         by_cases c30 : x1_1 < (t594.length : Int)
         ·
          rw [if_pos c30] at H
          have c30b0 : decide (x1_1 < (t594.length : Int)) = true := decide_eq_true c30
          clear c30
          by_cases c31 : (rd t594 x1_1) > 0
          ·
           rw [if_pos c31] at H
           have c31b0 : decide (0 < (rd t594 x1_1)) = true := decide_eq_true c31
           clear c31
           have H' := Aside0.mk H
           clear H
           have p598 : 0 ≤ (x1_1 : Int) := of_decide_eq_true asz
           have q598 : x1_1 < (t594.length : Int) := of_decide_eq_true asz
           obtain ⟨ad598, e598, hx598_0⟩ := Kd.at_int (Kd.R_reads' HO_11.out).2.2 x1_1 p598 q598
           obtain rfl : ad597 = ad598 := (by injection e598)
           replace p598 := eq_true p598
           replace q598 := eq_true q598
           go_wp2
           repeat (go_quiet (fail); try go_wp2)
           go_loopg [13] k1 (fun kq v13 w' => ∃ (x13_2 : Int), v13 = .int .i64 x13_2 ∧ Aside0 (dropperref05_Order.l1 kq x1_1 t594 x12_1 x13_2 = some (r1, r2)) ∧ Aside0 (kq ≤ k1) ∧ Aside0 (Kd.R (Kd.int .i64) 3 w' w.heap.size (fun k_ => some k_ ≠ (u12 : Value).ownBlock) (.slice (some ad597) t594.length co28) t594) ∧ Aside0 (Kd.R (Kd.int .i64) 3 w' w.heap.size (fun k_ => some k_ ≠ ((.slice (some ad597) t594.length co28) : Value).ownBlock) u12 x12_1) ∧ Aside0 (w'.heap[gb591]? = some (.cells #[.int .i64 a0_0, (.slice A0_1 l0_1.length c0_1), (.slice A0_2 l0_2.length c0_2)] 25 (0, 0))) ∧ Aside0 (Below w.heap.size w w'))
           case atStart => exact ⟨(0), rsz, H', ⟨Nat.le_refl _⟩, ⟨by (with_reducible repeat (first | apply Kd.R_alloc | apply Kd.R_drewN | apply Kd.R_drew)); exact HO_11.out⟩, ⟨by (with_reducible repeat (first | apply Kd.R_alloc | apply Kd.R_drewN | apply Kd.R_drew)); exact HO_12.out⟩, ⟨blkz⟩, ⟨bel⟩⟩
           case round =>
            clear H'
            try clear c1
            try clear c2
            try clear p2
            try clear c3
            try clear p5
            try clear q5
            try clear hx5
            try clear c6
            try clear c6b0
            try clear c6b1
            try clear c8
            try clear c10
            try clear c10b0
            try clear c11
            try clear c11b0
            try clear c12
            try clear c12b0
            try clear c29
            try clear c29b0
            try clear c30
            try clear c30b0
            try clear c31
            try clear c31b0
            try clear hcz14_0
            try clear hcz14_1
            try clear hcz14_2
            try clear hcz16_0
            try clear hcz16_1
            try clear hcz16_2
            try clear hcz18_0
            try clear hcz18_1
            try clear hcz18_2
            try clear hcz22_0
            try clear hcz22_1
            try clear hcz22_2
            try clear hcz24_0
            try clear hcz24_1
            try clear hcz24_2
            try clear hcz26_0
            try clear hcz26_1
            try clear hcz26_2
            try clear hfz14_0
            try clear hfz14_1
            try clear hfz14_2
            try clear hfz16_0
            try clear hfz16_1
            try clear hfz16_2
            try clear hfz18_0
            try clear hfz18_1
            try clear hfz18_2
            try clear hfz22_0
            try clear hfz22_1
            try clear hfz22_2
            try clear hfz24_0
            try clear hfz24_1
            try clear hfz24_2
            try clear hfz26_0
            try clear hfz26_1
            try clear hfz26_2
            try clear hx597_0
            try clear hx598_0
            try clear p2
            try clear p5
            try clear p597
            try clear p598
            try clear q5
            try clear q597
            try clear q598
            obtain ⟨x13_2, rfl, HA, HK2, HO_11, HO_12, BK591, HB⟩ := hrel
            cases gk with
            | zero => exact absurd HA.out (by simp [dropperref05_Order.l1])
            | succ k2 =>
             have H := HA.out
             clear HA
             simp only [dropperref05_Order.l1] at H
             by_cases c32 : 0 ≤ x13_2
             ·
              rw [if_pos c32] at H
              have c32b0 := eq_true c32
              have c32b1 : decide (0 ≤ x13_2) = true := decide_eq_true c32
              clear c32
              obtain ⟨ji33, hji33⟩ : ∃ j_ : Int, (shl .i64 1 x13_2) = j_ := ⟨_, rfl⟩
              replace H : (if 0 ≤ (Go.bits .xor .i64 x1_1 (ji33)) then (if (Go.bits .xor .i64 x1_1 (ji33)) < (t594.length : Int) then (if 0 ≤ x1_1 then (if x1_1 < (t594.length : Int) then (if (rd t594 (Go.bits .xor .i64 x1_1 (ji33))) = (wrap64 ((rd t594 x1_1) - 1)) then (if x12_1.length < 17592186044416 then (dropperref05_Order.l0 k2 (Go.bits .xor .i64 x1_1 (ji33)) t594 (x12_1 ++ [x13_2])) else (none)) else (dropperref05_Order.l1 k2 x1_1 t594 x12_1 (wrap64 (x13_2 + 1)))) else (none)) else (none)) else (none)) else (none)) = some (r1, r2) := by first | (rw [hji33] at H; exact H) | (simp only [hji33] at H ⊢; exact H)
              have hji33_ : (IntKind.i64.wrap (1 * 2 ^ min x13_2.toNat 64)) = ji33 := hji33
              have hji33z : x13_2 ≤ 64 → (IntKind.i64.wrap (1 * 2 ^ x13_2.toNat)) = ji33 := shl_small hji33
              have hji33u : (IntKind.i64.wrap (2 ^ min x13_2.toNat 64)) = ji33 := by have h_ := hji33_; rw [Int.one_mul] at h_; exact h_
              have hji33v : x13_2 ≤ 64 → (IntKind.i64.wrap (2 ^ x13_2.toNat)) = ji33 := fun hle_ => by have h_ := hji33z hle_; rw [Int.one_mul] at h_; exact h_
              have hji33y : (wrap64 (1 * 2 ^ min x13_2.toNat 64)) = ji33 := (i64_w _).symm.trans hji33_
              have hji33x : x13_2 ≤ 64 → (wrap64 (1 * 2 ^ x13_2.toNat)) = ji33 := fun h_ => (i64_w _).symm.trans (hji33z h_)
              by_cases c34 : 0 ≤ (Go.bits .xor .i64 x1_1 (ji33))
              ·
               rw [if_pos c34] at H
               have c34b0 : decide (0 ≤ (Go.bits .xor .i64 x1_1 (ji33))) = true := decide_eq_true c34
               clear c34
               by_cases c35 : (Go.bits .xor .i64 x1_1 (ji33)) < (t594.length : Int)
               ·
                rw [if_pos c35] at H
                have c35b0 : decide ((Go.bits .xor .i64 x1_1 (ji33)) < (t594.length : Int)) = true := decide_eq_true c35
                clear c35
                by_cases c36 : 0 ≤ x1_1
                ·
                 rw [if_pos c36] at H
                 have c36b0 : decide (0 ≤ x1_1) = true := decide_eq_true c36
                 clear c36
                 by_cases c37 : x1_1 < (t594.length : Int)
                 ·
                  rw [if_pos c37] at H
                  have c37b0 : decide (x1_1 < (t594.length : Int)) = true := decide_eq_true c37
                  clear c37
                  by_cases c38 : (rd t594 (Go.bits .xor .i64 x1_1 (ji33))) = (wrap64 ((rd t594 x1_1) - 1))
                  ·
                   rw [if_pos c38] at H
                   have c38b0 : ((rd t594 (Go.bits .xor .i64 x1_1 (ji33))) == (wrap64 ((rd t594 x1_1) - 1))) = true := beq_iff_eq.mpr c38
                   have c38b1 : ((rd t594 (Go.bits .xor .i64 x1_1 (ji33))) != (wrap64 ((rd t594 x1_1) - 1))) = false := bne_eq_false_iff_eq.mpr c38
                   clear c38
                   by_cases c39 : x12_1.length < 17592186044416
                   ·
                    rw [if_pos c39] at H
                    have LMc39 := Aside0.mk c39
                    clear c39
                    obtain ⟨y601, hy601⟩ : ∃ y_ : List Int, y_ = (x12_1 ++ [x13_2]) := ⟨_, rfl⟩
                    replace H : (dropperref05_Order.l0 k2 (Go.bits .xor .i64 x1_1 (ji33)) t594 y601) = some (r1, r2) := by first | (rw [hy601]; with_reducible exact H) | (have H2_ := (Option.bind_some _ _).symm.trans H; rw [hy601]; with_reducible exact H2_) | (have H2_ := (Option.bind_some _ _).symm.trans H; with_reducible exact H2_) | with_reducible exact H | (rw [hy601]; exact H) | exact H
                    have Ny601 := Aside0.mk hy601
                    clear hy601
                    have c40b0 := eq_true (of_decide_eq_true asz : 0 ≤ x13_2)
                    have H' := Aside0.mk H
                    clear H
                    have p599 : 0 ≤ ((Go.bits .xor .i64 x1_1 (ji33)) : Int) := of_decide_eq_true asz
                    have q599 : (Go.bits .xor .i64 x1_1 (ji33)) < (t594.length : Int) := of_decide_eq_true asz
                    obtain ⟨ad599, e599, hx599_0⟩ := Kd.at_int (Kd.R_reads' HO_11.out).2.2 (Go.bits .xor .i64 x1_1 (ji33)) p599 q599
                    obtain rfl : ad597 = ad599 := (by injection e599)
                    replace p599 := eq_true p599
                    replace q599 := eq_true q599
                    have p600 : 0 ≤ (x1_1 : Int) := of_decide_eq_true asz
                    have q600 : x1_1 < (t594.length : Int) := of_decide_eq_true asz
                    obtain ⟨ad600, e600, hx600_0⟩ := Kd.at_int (Kd.R_reads' HO_11.out).2.2 x1_1 p600 q600
                    obtain rfl : ad597 = ad600 := (by injection e600)
                    replace p600 := eq_true p600
                    replace q600 := eq_true q600
                    go_wp2_with (first | ((with_reducible refine gate_builtin (b := .append) (xs := #[.tmp 54, .tmp 56]) rfl ?_); at_builtin; refine Kd.R_append (Kd.int .i64) (w0 := w) w.heap.size rfl (.tmp 54) (.tmp 56) 28 3 (.int .i64 0) 8 rfl Tryd.underlying28 info3 rfl (by decide) (by omega) u12 x12_1 x13_2 [.int .i64 x13_2] (fun k_ => some k_ ≠ (.slice (some ad597) t594.length co28 : Value).ownBlock) (fun _ => False) rfl rfl ?aP (fun _ hk => hk.elim) ?aF ?aO ?aB ?aS ?aL ?_; (case aP => exact rfl); (case aB => exact bel); (case aF => exact (fun k_ hk => Kd.fresh' (Kd.R_lt (ownx HO_11)) k_ hk)); (case aO => exact (ownx HO_12)); (case aS => exact (below_size bel)); (case aL => have := LMc39.out; omega); intro v602 w42 ho hb hg hat; rw [← Ny601.out] at ho; have n0_ := Aside0.mk (Kd.R_after (ok := (fun _ => True)) (by (with_reducible repeat (first | apply Kd.R_alloc | apply Kd.R_drewN | apply Kd.R_drew)); exact Kd.R_mono HO_11.out (fun _ hk => ⟨trivial, hk⟩)) hg hat); have n1_ := Aside0.mk (blk_grown (g := gb591) (o := .cells #[.int .i64 a0_0, .slice A0_1 l0_1.length c0_1, .slice A0_2 l0_2.length c0_2] 25 (0, 0)) blkz hg (Kd.R_ne HO_12.out BK591.out (by decide))); have n2_ := Aside0.mk (hb); have n3_ := Aside0.mk (ho); clear HO_11; clear BK591; clear HB; clear HO_12; have HO_11 := n0_; have BK591 := n1_; have HB := n2_; have HO603 := n3_; clear n0_ n1_ n2_ n3_; clear ho hb hg hat))
                    repeat (go_quiet (first | ((with_reducible refine gate_builtin (b := .append) (xs := #[.tmp 54, .tmp 56]) rfl ?_); at_builtin; refine Kd.R_append (Kd.int .i64) (w0 := w) w.heap.size rfl (.tmp 54) (.tmp 56) 28 3 (.int .i64 0) 8 rfl Tryd.underlying28 info3 rfl (by decide) (by omega) u12 x12_1 x13_2 [.int .i64 x13_2] (fun k_ => some k_ ≠ (.slice (some ad597) t594.length co28 : Value).ownBlock) (fun _ => False) rfl rfl ?aP (fun _ hk => hk.elim) ?aF ?aO ?aB ?aS ?aL ?_; (case aP => exact rfl); (case aB => exact bel); (case aF => exact (fun k_ hk => Kd.fresh' (Kd.R_lt (ownx HO_11)) k_ hk)); (case aO => exact (ownx HO_12)); (case aS => exact (below_size bel)); (case aL => have := LMc39.out; omega); intro v602 w42 ho hb hg hat; rw [← Ny601.out] at ho; have n0_ := Aside0.mk (Kd.R_after (ok := (fun _ => True)) (by (with_reducible repeat (first | apply Kd.R_alloc | apply Kd.R_drewN | apply Kd.R_drew)); exact Kd.R_mono HO_11.out (fun _ hk => ⟨trivial, hk⟩)) hg hat); have n1_ := Aside0.mk (blk_grown (g := gb591) (o := .cells #[.int .i64 a0_0, .slice A0_1 l0_1.length c0_1, .slice A0_2 l0_2.length c0_2] 25 (0, 0)) blkz hg (Kd.R_ne HO_12.out BK591.out (by decide))); have n2_ := Aside0.mk (hb); have n3_ := Aside0.mk (ho); clear HO_11; clear BK591; clear HB; clear HO_12; have HO_11 := n0_; have BK591 := n1_; have HB := n2_; have HO603 := n3_; clear n0_ n1_ n2_ n3_; clear ho hb hg hat)); try go_wp2_with (first | ((with_reducible refine gate_builtin (b := .append) (xs := #[.tmp 54, .tmp 56]) rfl ?_); at_builtin; refine Kd.R_append (Kd.int .i64) (w0 := w) w.heap.size rfl (.tmp 54) (.tmp 56) 28 3 (.int .i64 0) 8 rfl Tryd.underlying28 info3 rfl (by decide) (by omega) u12 x12_1 x13_2 [.int .i64 x13_2] (fun k_ => some k_ ≠ (.slice (some ad597) t594.length co28 : Value).ownBlock) (fun _ => False) rfl rfl ?aP (fun _ hk => hk.elim) ?aF ?aO ?aB ?aS ?aL ?_; (case aP => exact rfl); (case aB => exact bel); (case aF => exact (fun k_ hk => Kd.fresh' (Kd.R_lt (ownx HO_11)) k_ hk)); (case aO => exact (ownx HO_12)); (case aS => exact (below_size bel)); (case aL => have := LMc39.out; omega); intro v602 w42 ho hb hg hat; rw [← Ny601.out] at ho; have n0_ := Aside0.mk (Kd.R_after (ok := (fun _ => True)) (by (with_reducible repeat (first | apply Kd.R_alloc | apply Kd.R_drewN | apply Kd.R_drew)); exact Kd.R_mono HO_11.out (fun _ hk => ⟨trivial, hk⟩)) hg hat); have n1_ := Aside0.mk (blk_grown (g := gb591) (o := .cells #[.int .i64 a0_0, .slice A0_1 l0_1.length c0_1, .slice A0_2 l0_2.length c0_2] 25 (0, 0)) blkz hg (Kd.R_ne HO_12.out BK591.out (by decide))); have n2_ := Aside0.mk (hb); have n3_ := Aside0.mk (ho); clear HO_11; clear BK591; clear HB; clear HO_12; have HO_11 := n0_; have BK591 := n1_; have HB := n2_; have HO603 := n3_; clear n0_ n1_ n2_ n3_; clear ho hb hg hat)))
                    go_roundg k2
                    case measure => have := HK1.out; have := HK2.out; omega
                    case rel => exact ⟨(Go.bits .xor .i64 x1_1 (ji33)), (y601), (by first | rfl | (simp; done) | (simp only [← hji33] <;> (first | rfl | simp)) | (simp [*]; done)), H', ⟨by have := HK1.out; have := HK2.out; omega⟩, ⟨by (with_reducible repeat (first | apply Kd.R_alloc | apply Kd.R_drewN | apply Kd.R_drew)); exact Kd.R_mono HO_11.out (fun _ hk => hk.2)⟩, ⟨by (with_reducible repeat (first | apply Kd.R_alloc | apply Kd.R_drewN | apply Kd.R_drew)); exact HO603.out⟩, ⟨blkz⟩, ⟨bel⟩⟩
                   ·
                    rw [if_neg c39] at H
                    exact absurd H (by simp)
                  ·
                   rw [if_neg c38] at H
                   have c38b0 : ((rd t594 (Go.bits .xor .i64 x1_1 (ji33))) == (wrap64 ((rd t594 x1_1) - 1))) = false := beq_eq_false_iff_ne.mpr c38
                   have c38b1 : ((rd t594 (Go.bits .xor .i64 x1_1 (ji33))) != (wrap64 ((rd t594 x1_1) - 1))) = true := bne_iff_ne.mpr c38
                   have H' := Aside0.mk H
                   clear H
                   have p599 : 0 ≤ ((Go.bits .xor .i64 x1_1 (ji33)) : Int) := of_decide_eq_true asz
                   have q599 : (Go.bits .xor .i64 x1_1 (ji33)) < (t594.length : Int) := of_decide_eq_true asz
                   obtain ⟨ad599, e599, hx599_0⟩ := Kd.at_int (Kd.R_reads' HO_11.out).2.2 (Go.bits .xor .i64 x1_1 (ji33)) p599 q599
                   obtain rfl : ad597 = ad599 := (by injection e599)
                   replace p599 := eq_true p599
                   replace q599 := eq_true q599
                   have p600 : 0 ≤ (x1_1 : Int) := of_decide_eq_true asz
                   have q600 : x1_1 < (t594.length : Int) := of_decide_eq_true asz
                   obtain ⟨ad600, e600, hx600_0⟩ := Kd.at_int (Kd.R_reads' HO_11.out).2.2 x1_1 p600 q600
                   obtain rfl : ad597 = ad600 := (by injection e600)
                   replace p600 := eq_true p600
                   replace q600 := eq_true q600
                   go_wp2
                   repeat (go_quiet (fail); try go_wp2)
                   go_roundg k2
                   case measure => have := HK1.out; have := HK2.out; omega
                   case rel => exact ⟨(wrap64 (x13_2 + 1)), rsz, H', ⟨by have := HK1.out; have := HK2.out; omega⟩, ⟨by (with_reducible repeat (first | apply Kd.R_alloc | apply Kd.R_drewN | apply Kd.R_drew)); exact HO_11.out⟩, ⟨by (with_reducible repeat (first | apply Kd.R_alloc | apply Kd.R_drewN | apply Kd.R_drew)); exact HO_12.out⟩, ⟨blkz⟩, ⟨bel⟩⟩
                 ·
                  rw [if_neg c37] at H
                  exact absurd H (by simp)
                ·
                 rw [if_neg c36] at H
                 exact absurd H (by simp)
               ·
                rw [if_neg c35] at H
                exact absurd H (by simp)
              ·
               rw [if_neg c34] at H
               exact absurd H (by simp)
             ·
              rw [if_neg c32] at H
              exact absurd H (by simp)
          ·
           rw [if_neg c31] at H
           have c31b0 : decide (0 < (rd t594 x1_1)) = false := decide_eq_false c31
           clear c31
           simp only [Option.some.injEq, Prod.mk.injEq] at H
           obtain ⟨rfl, rfl⟩ := H
           have p598 : 0 ≤ (x1_1 : Int) := of_decide_eq_true asz
           have q598 : x1_1 < (t594.length : Int) := of_decide_eq_true asz
           obtain ⟨ad598, e598, hx598_0⟩ := Kd.at_int (Kd.R_reads' HO_11.out).2.2 x1_1 p598 q598
           obtain rfl : ad597 = ad598 := (by injection e598)
           replace p598 := eq_true p598
           replace q598 := eq_true q598
           go_wp2
           repeat (go_quiet (fail); try go_wp2)
           go_ret2
           exact ⟨_, ezz, by (with_reducible repeat (first | apply Kd.R_alloc | apply Kd.R_drewN | apply Kd.R_drew)); exact Kd.R_mono HO_12.out (fun _ hk => trivial), bel⟩
         ·
          rw [if_neg c30] at H
          exact absurd H (by simp)
        ·
         rw [if_neg c29] at H
         exact absurd H (by simp)
    ·
     rw [if_neg c11] at H
     exact absurd H (by simp)
   ·
    rw [if_neg c10] at H
    exact absurd H (by simp)
  ·
   replace c8 := Bool.eq_false_iff.mpr c8
   subst c8
   have H1 : (some (([] : List Int), 51)) = some (r1, r2) := by rw [if_neg (show ¬ (false = true) by decide)] at H; exact H
   clear H
   have H := H1
   clear H1
   simp only [Option.some.injEq, Prod.mk.injEq] at H
   obtain ⟨rfl, rfl⟩ := H
   go_enter Tryd.func37, Tryd.ntmps37
   go_wp2_with (first | ((with_reducible refine gate_dst (N := 4) rfl ?_); refine box_event ?hg (N := 4) ?hd (cs := #[.int .i64 a0_0, .slice A0_1 l0_1.length c0_1, .slice A0_2 l0_2.length c0_2]) (t := 25) ?hr ?_; (case hd => rfl); (case hg => rfl); (case hr => first | (go_simp; done) | (go_simp; rfl)); intro gb591 hg w43 hbox hb; have BK591 := Aside0.mk (hbox); have GW591 := bsz (w := w) hg; have GE591 := GW591; replace HB := Aside0.mk (below_step bel hb); clear hb hbox hg; have hcz44_0 := blkc BK591.out 0 (.int .i64 a0_0) rfl; have hcz44_1 := blkc BK591.out 1 (.slice A0_1 l0_1.length c0_1) rfl; have hcz44_2 := blkc BK591.out 2 (.slice A0_2 l0_2.length c0_2) rfl) | (go_at_call 72; (with_reducible refine (dropperref05_begun.calls k a0_0 _ _ l0_1 _ _ l0_2 a1 _ _ l3 t592 _ ?side1 ?side2 ?side3 ?side4 ?side5 ?side6 A5.out).mono ?_); (case side1 => exact cbz HR0_1); (case side2 => exact HC0_1.out); (case side3 => exact cbz HR0_2); (case side4 => exact HC0_2.out); (case side5 => exact cbz HR3); (case side6 => exact HC3.out); rintro e w45 ⟨rfl, hb⟩; replace BK591 := Aside0.mk (blk_below (g := gb591) blkz hb); replace HB := Aside0.mk (below_step bel hb); (try clear hb); (try clear hb2); (try clear hk); (try clear hi); have hcz46_0 := blkc BK591.out 0 (.int .i64 a0_0) rfl; have hcz46_1 := blkc BK591.out 1 (.slice A0_1 l0_1.length c0_1) rfl; have hcz46_2 := blkc BK591.out 2 (.slice A0_2 l0_2.length c0_2) rfl) | (go_at_call 76; (with_reducible refine (dropperref05_IsState.calls a0_0 _ _ l0_1 _ _ l0_2 a2 false _ ?side1 ?side2 ?side3 ?side4 A7.out).mono ?_); (case side1 => exact cbz HR0_1); (case side2 => exact HC0_1.out); (case side3 => exact cbz HR0_2); (case side4 => exact HC0_2.out); rintro e w47 ⟨rfl, hb⟩; replace BK591 := Aside0.mk (blk_below (g := gb591) blkz hb); replace HB := Aside0.mk (below_step bel hb); (try clear hb); (try clear hb2); (try clear hk); (try clear hi)))
   repeat (go_quiet (first | ((with_reducible refine gate_dst (N := 4) rfl ?_); refine box_event ?hg (N := 4) ?hd (cs := #[.int .i64 a0_0, .slice A0_1 l0_1.length c0_1, .slice A0_2 l0_2.length c0_2]) (t := 25) ?hr ?_; (case hd => rfl); (case hg => rfl); (case hr => first | (go_simp; done) | (go_simp; rfl)); intro gb591 hg w43 hbox hb; have BK591 := Aside0.mk (hbox); have GW591 := bsz (w := w) hg; have GE591 := GW591; replace HB := Aside0.mk (below_step bel hb); clear hb hbox hg; have hcz44_0 := blkc BK591.out 0 (.int .i64 a0_0) rfl; have hcz44_1 := blkc BK591.out 1 (.slice A0_1 l0_1.length c0_1) rfl; have hcz44_2 := blkc BK591.out 2 (.slice A0_2 l0_2.length c0_2) rfl) | (go_at_call 72; (with_reducible refine (dropperref05_begun.calls k a0_0 _ _ l0_1 _ _ l0_2 a1 _ _ l3 t592 _ ?side1 ?side2 ?side3 ?side4 ?side5 ?side6 A5.out).mono ?_); (case side1 => exact cbz HR0_1); (case side2 => exact HC0_1.out); (case side3 => exact cbz HR0_2); (case side4 => exact HC0_2.out); (case side5 => exact cbz HR3); (case side6 => exact HC3.out); rintro e w45 ⟨rfl, hb⟩; replace BK591 := Aside0.mk (blk_below (g := gb591) blkz hb); replace HB := Aside0.mk (below_step bel hb); (try clear hb); (try clear hb2); (try clear hk); (try clear hi); have hcz46_0 := blkc BK591.out 0 (.int .i64 a0_0) rfl; have hcz46_1 := blkc BK591.out 1 (.slice A0_1 l0_1.length c0_1) rfl; have hcz46_2 := blkc BK591.out 2 (.slice A0_2 l0_2.length c0_2) rfl) | (go_at_call 76; (with_reducible refine (dropperref05_IsState.calls a0_0 _ _ l0_1 _ _ l0_2 a2 false _ ?side1 ?side2 ?side3 ?side4 A7.out).mono ?_); (case side1 => exact cbz HR0_1); (case side2 => exact HC0_1.out); (case side3 => exact cbz HR0_2); (case side4 => exact HC0_2.out); rintro e w47 ⟨rfl, hb⟩; replace BK591 := Aside0.mk (blk_below (g := gb591) blkz hb); replace HB := Aside0.mk (below_step bel hb); (try clear hb); (try clear hb2); (try clear hk); (try clear hi))); try go_wp2_with (first | ((with_reducible refine gate_dst (N := 4) rfl ?_); refine box_event ?hg (N := 4) ?hd (cs := #[.int .i64 a0_0, .slice A0_1 l0_1.length c0_1, .slice A0_2 l0_2.length c0_2]) (t := 25) ?hr ?_; (case hd => rfl); (case hg => rfl); (case hr => first | (go_simp; done) | (go_simp; rfl)); intro gb591 hg w43 hbox hb; have BK591 := Aside0.mk (hbox); have GW591 := bsz (w := w) hg; have GE591 := GW591; replace HB := Aside0.mk (below_step bel hb); clear hb hbox hg; have hcz44_0 := blkc BK591.out 0 (.int .i64 a0_0) rfl; have hcz44_1 := blkc BK591.out 1 (.slice A0_1 l0_1.length c0_1) rfl; have hcz44_2 := blkc BK591.out 2 (.slice A0_2 l0_2.length c0_2) rfl) | (go_at_call 72; (with_reducible refine (dropperref05_begun.calls k a0_0 _ _ l0_1 _ _ l0_2 a1 _ _ l3 t592 _ ?side1 ?side2 ?side3 ?side4 ?side5 ?side6 A5.out).mono ?_); (case side1 => exact cbz HR0_1); (case side2 => exact HC0_1.out); (case side3 => exact cbz HR0_2); (case side4 => exact HC0_2.out); (case side5 => exact cbz HR3); (case side6 => exact HC3.out); rintro e w45 ⟨rfl, hb⟩; replace BK591 := Aside0.mk (blk_below (g := gb591) blkz hb); replace HB := Aside0.mk (below_step bel hb); (try clear hb); (try clear hb2); (try clear hk); (try clear hi); have hcz46_0 := blkc BK591.out 0 (.int .i64 a0_0) rfl; have hcz46_1 := blkc BK591.out 1 (.slice A0_1 l0_1.length c0_1) rfl; have hcz46_2 := blkc BK591.out 2 (.slice A0_2 l0_2.length c0_2) rfl) | (go_at_call 76; (with_reducible refine (dropperref05_IsState.calls a0_0 _ _ l0_1 _ _ l0_2 a2 false _ ?side1 ?side2 ?side3 ?side4 A7.out).mono ?_); (case side1 => exact cbz HR0_1); (case side2 => exact HC0_1.out); (case side3 => exact cbz HR0_2); (case side4 => exact HC0_2.out); rintro e w47 ⟨rfl, hb⟩; replace BK591 := Aside0.mk (blk_below (g := gb591) blkz hb); replace HB := Aside0.mk (below_step bel hb); (try clear hb); (try clear hb2); (try clear hk); (try clear hi))))
   go_ret2
   exact ⟨_, ezz, by first | exact Kd.R_nil _ _ _ _ _ | exact Kd.N_nil _ _ _ _ _ | exact Kd.V_nil _ _ _ _ _ | exact Kd.Q_nil _ _ _ _ _ | exact Kd.S_nil _ _ _ _ _, bel⟩
 ·
  rw [if_neg c6] at H
  have c6b0 : (t592 == 0) = false := beq_eq_false_iff_ne.mpr c6
  have c6b1 : (t592 != 0) = true := bne_iff_ne.mpr c6
  simp only [Option.some.injEq, Prod.mk.injEq] at H
  obtain ⟨rfl, rfl⟩ := H
  go_enter Tryd.func37, Tryd.ntmps37
  go_wp2_with (first | ((with_reducible refine gate_dst (N := 4) rfl ?_); refine box_event ?hg (N := 4) ?hd (cs := #[.int .i64 a0_0, .slice A0_1 l0_1.length c0_1, .slice A0_2 l0_2.length c0_2]) (t := 25) ?hr ?_; (case hd => rfl); (case hg => rfl); (case hr => first | (go_simp; done) | (go_simp; rfl)); intro gb591 hg w48 hbox hb; have BK591 := Aside0.mk (hbox); have GW591 := bsz (w := w) hg; have GE591 := GW591; replace HB := Aside0.mk (below_step bel hb); clear hb hbox hg; have hcz49_0 := blkc BK591.out 0 (.int .i64 a0_0) rfl; have hcz49_1 := blkc BK591.out 1 (.slice A0_1 l0_1.length c0_1) rfl; have hcz49_2 := blkc BK591.out 2 (.slice A0_2 l0_2.length c0_2) rfl) | (go_at_call 72; (with_reducible refine (dropperref05_begun.calls k a0_0 _ _ l0_1 _ _ l0_2 a1 _ _ l3 t592 _ ?side1 ?side2 ?side3 ?side4 ?side5 ?side6 A5.out).mono ?_); (case side1 => exact cbz HR0_1); (case side2 => exact HC0_1.out); (case side3 => exact cbz HR0_2); (case side4 => exact HC0_2.out); (case side5 => exact cbz HR3); (case side6 => exact HC3.out); rintro e w50 ⟨rfl, hb⟩; replace BK591 := Aside0.mk (blk_below (g := gb591) blkz hb); replace HB := Aside0.mk (below_step bel hb); (try clear hb); (try clear hb2); (try clear hk); (try clear hi)))
  repeat (go_quiet (first | ((with_reducible refine gate_dst (N := 4) rfl ?_); refine box_event ?hg (N := 4) ?hd (cs := #[.int .i64 a0_0, .slice A0_1 l0_1.length c0_1, .slice A0_2 l0_2.length c0_2]) (t := 25) ?hr ?_; (case hd => rfl); (case hg => rfl); (case hr => first | (go_simp; done) | (go_simp; rfl)); intro gb591 hg w48 hbox hb; have BK591 := Aside0.mk (hbox); have GW591 := bsz (w := w) hg; have GE591 := GW591; replace HB := Aside0.mk (below_step bel hb); clear hb hbox hg; have hcz49_0 := blkc BK591.out 0 (.int .i64 a0_0) rfl; have hcz49_1 := blkc BK591.out 1 (.slice A0_1 l0_1.length c0_1) rfl; have hcz49_2 := blkc BK591.out 2 (.slice A0_2 l0_2.length c0_2) rfl) | (go_at_call 72; (with_reducible refine (dropperref05_begun.calls k a0_0 _ _ l0_1 _ _ l0_2 a1 _ _ l3 t592 _ ?side1 ?side2 ?side3 ?side4 ?side5 ?side6 A5.out).mono ?_); (case side1 => exact cbz HR0_1); (case side2 => exact HC0_1.out); (case side3 => exact cbz HR0_2); (case side4 => exact HC0_2.out); (case side5 => exact cbz HR3); (case side6 => exact HC3.out); rintro e w50 ⟨rfl, hb⟩; replace BK591 := Aside0.mk (blk_below (g := gb591) blkz hb); replace HB := Aside0.mk (below_step bel hb); (try clear hb); (try clear hb2); (try clear hk); (try clear hi))); try go_wp2_with (first | ((with_reducible refine gate_dst (N := 4) rfl ?_); refine box_event ?hg (N := 4) ?hd (cs := #[.int .i64 a0_0, .slice A0_1 l0_1.length c0_1, .slice A0_2 l0_2.length c0_2]) (t := 25) ?hr ?_; (case hd => rfl); (case hg => rfl); (case hr => first | (go_simp; done) | (go_simp; rfl)); intro gb591 hg w48 hbox hb; have BK591 := Aside0.mk (hbox); have GW591 := bsz (w := w) hg; have GE591 := GW591; replace HB := Aside0.mk (below_step bel hb); clear hb hbox hg; have hcz49_0 := blkc BK591.out 0 (.int .i64 a0_0) rfl; have hcz49_1 := blkc BK591.out 1 (.slice A0_1 l0_1.length c0_1) rfl; have hcz49_2 := blkc BK591.out 2 (.slice A0_2 l0_2.length c0_2) rfl) | (go_at_call 72; (with_reducible refine (dropperref05_begun.calls k a0_0 _ _ l0_1 _ _ l0_2 a1 _ _ l3 t592 _ ?side1 ?side2 ?side3 ?side4 ?side5 ?side6 A5.out).mono ?_); (case side1 => exact cbz HR0_1); (case side2 => exact HC0_1.out); (case side3 => exact cbz HR0_2); (case side4 => exact HC0_2.out); (case side5 => exact cbz HR3); (case side6 => exact HC3.out); rintro e w50 ⟨rfl, hb⟩; replace BK591 := Aside0.mk (blk_below (g := gb591) blkz hb); replace HB := Aside0.mk (below_step bel hb); (try clear hb); (try clear hb2); (try clear hk); (try clear hi))))
  go_ret2
  exact ⟨_, ezz, by first | exact Kd.R_nil _ _ _ _ _ | exact Kd.N_nil _ _ _ _ _ | exact Kd.V_nil _ _ _ _ _ | exact Kd.Q_nil _ _ _ _ _ | exact Kd.S_nil _ _ _ _ _, bel⟩

/-! ### dropperlaw05_FeedOrders: function 8 -/
def dropperlaw05_FeedOrders.f (k : Nat) (a0_0 : Int) (l0_1 : List (S69)) (l0_2 : List (S71)) (a1_0 : Int) (a1_1 : Int) (l2 : List Int) : Option (Bool) := (dropperlaw05_Large.f a0_0 l0_1 l0_2 l2).bind fun t606 => (if t606 = true then ((dropperlaw05_First.f k).bind fun t607 => (some t607)) else ((feed_Order.f k a0_0 l0_1 l0_2 a1_0 a1_1 l2).bind fun bt608 => ((dropperref05_Order.f k a0_0 l0_1 l0_2 a1_0 a1_1 l2).bind fun bt612 => ((dropperlaw05_SameInts.f k bt608.1 bt612.1).bind fun t616 => (if t616 = true then (if bt608.2 = bt612.2 then ((dropperlaw05_First.f k).bind fun t617 => (some t617)) else (none)) else (none))))))
theorem dropperlaw05_FeedOrders.mono : ∀ a0 a1 a2 a3 a4 a5 k, LeO (dropperlaw05_FeedOrders.f k a0 a1 a2 a3 a4 a5) (dropperlaw05_FeedOrders.f (k + 1) a0 a1 a2 a3 a4 a5) := by
 intro a0 a1 a2 a3 a4 a5 k
 unfold dropperlaw05_FeedOrders.f
 repeat' first
   | (with_reducible exact dropperlaw05_First.mono _)
   | (with_reducible exact dropperlaw05_SameInts.mono _ _ _)
   | (with_reducible exact dropperref05_Order.mono _ _ _ _ _ _ _)
   | (with_reducible exact feed_Order.mono _ _ _ _ _ _ _)
   | (with_reducible exact LeO.refl _)
   | (with_reducible exact LeO.none _)
   | (with_reducible refine LeO.ite ?_ ?_)
   | (with_reducible refine LeO.bind ?_ (fun _ => ?_))
   | exact dropperlaw05_First.mono _
   | exact dropperlaw05_SameInts.mono _ _ _
   | exact dropperref05_Order.mono _ _ _ _ _ _ _
   | exact feed_Order.mono _ _ _ _ _ _ _
   | exact LeO.none _
   | refine LeO.ite ?_ ?_
   | refine LeO.bind ?_ (fun _ => ?_)
set_option maxHeartbeats 8000000 in
set_option maxRecDepth 100000 in
theorem dropperlaw05_FeedOrders.calls (k : Nat) (a0_0 : Int) (A0_1 : Option Addr) (c0_1 : Nat) (l0_1 : List (S69)) (A0_2 : Option Addr) (c0_2 : Nat) (l0_2 : List (S71)) (a1_0 : Int) (a1_1 : Int) (A2 : Option Addr) (c2 : Nat) (l2 : List Int) (r : Bool) (w : World) (hr0_1 : Kd.C k69 w A0_1 l0_1.length l0_1) (hc0_1 : l0_1.length ≤ c0_1) (hr0_2 : Kd.C k71 w A0_2 l0_2.length l0_2) (hc0_2 : l0_2.length ≤ c0_2) (hr2 : Kd.C (Kd.int .i64) w A2 l2.length l2) (hc2 : l2.length ≤ c2) (hT : Tab.Tabs w) (h : dropperlaw05_FeedOrders.f k a0_0 l0_1 l0_2 a1_0 a1_1 l2 = some r) :
  Calls Tryd.prog 8 #[.agg #[.int .i64 a0_0, .slice A0_1 l0_1.length c0_1, .slice A0_2 l0_2.length c0_2], .agg #[.int .i64 a1_0, .int .i64 a1_1], .slice A2 l2.length c2] w fun e w' => e = .returned (.bool r) ∧ Below w.heap.size w w' := by
 have HT := Aside0.mk hT
 clear hT
 have hu25 := Tryd.underlying25
 have hu49 := Tryd.underlying49
 have HR0_1 := Aside0.mk hr0_1
 have HC0_1 := Aside0.mk hc0_1
 clear hr0_1 hc0_1
 have HR0_2 := Aside0.mk hr0_2
 have HC0_2 := Aside0.mk hc0_2
 clear hr0_2 hc0_2
 have HR2 := Aside0.mk hr2
 have HC2 := Aside0.mk hc2
 clear hr2 hc2
 have HB := Aside0.mk (Below.refl w.heap.size w)
 have H : ((dropperlaw05_Large.f a0_0 l0_1 l0_2 l2).bind fun t606 => (if t606 = true then ((dropperlaw05_First.f k).bind fun t607 => (some t607)) else ((feed_Order.f k a0_0 l0_1 l0_2 a1_0 a1_1 l2).bind fun bt608 => ((dropperref05_Order.f k a0_0 l0_1 l0_2 a1_0 a1_1 l2).bind fun bt612 => ((dropperlaw05_SameInts.f k bt608.1 bt612.1).bind fun t616 => (if t616 = true then (if bt608.2 = bt612.2 then ((dropperlaw05_First.f k).bind fun t617 => (some t617)) else (none)) else (none))))))) = some r := h
 clear h
 replace H := Option.bind_eq_some_iff.mp H
 obtain ⟨t606, A40, H⟩ := H
 replace H : (if t606 = true then ((dropperlaw05_First.f k).bind fun t607 => (some t607)) else ((feed_Order.f k a0_0 l0_1 l0_2 a1_0 a1_1 l2).bind fun bt608 => ((dropperref05_Order.f k a0_0 l0_1 l0_2 a1_0 a1_1 l2).bind fun bt612 => ((dropperlaw05_SameInts.f k bt608.1 bt612.1).bind fun t616 => (if t616 = true then (if bt608.2 = bt612.2 then ((dropperlaw05_First.f k).bind fun t617 => (some t617)) else (none)) else (none)))))) = some r := H
 have A4 := Aside0.mk A40
 clear A40
 by_cases c5 : t606 = true
 ·
  subst c5
  have H1 : ((dropperlaw05_First.f k).bind fun t607 => (some t607)) = some r := by rw [if_pos rfl] at H; exact H
  clear H
  have H := H1
  clear H1
  replace H := Option.bind_eq_some_iff.mp H
  obtain ⟨t607, A60, H⟩ := H
  replace H : (some t607) = some r := H
  have A6 := Aside0.mk A60
  clear A60
  obtain rfl := Option.some.inj H
  go_enter Tryd.func8, Tryd.ntmps8
  go_wp2_with (first | ((with_reducible refine gate_dst (N := 3) rfl ?_); refine box_event ?hg (N := 3) ?hd (cs := #[.int .i64 a0_0, .slice A0_1 l0_1.length c0_1, .slice A0_2 l0_2.length c0_2]) (t := 25) ?hr ?_; (case hd => rfl); (case hg => rfl); (case hr => first | (go_simp; done) | (go_simp; rfl)); intro gb604 hg w7 hbox hb; have BK604 := Aside0.mk (hbox); have GW604 := bsz (w := w) hg; have GE604 := GW604; replace HB := Aside0.mk (below_step bel hb); clear hb hbox hg) | ((with_reducible refine gate_dst (N := 4) rfl ?_); refine box_event ?hg (N := 4) ?hd (cs := #[.int .i64 a1_0, .int .i64 a1_1]) (t := 49) ?hr ?_; (case hd => rfl); (case hg => rfl); (case hr => first | (go_simp; done) | (go_simp; rfl)); intro gb605 hg w8 hbox hb; have BK605 := Aside0.mk (hbox); have GW605 := bsz (w := w) hg; have GE605 := GW605; have NB604_605 := neL (g := gb604) hg; have NB605_604 := neR (g := gb604) hg; replace BK604 := Aside0.mk (blk_below (g := gb604) blkz hb); replace HB := Aside0.mk (below_step bel hb); clear hb hbox hg; have hnb9 := NB604_605.out; have hnc9 := NB605_604.out; have hcz10_0 := blkc BK604.out 0 (.int .i64 a0_0) rfl; have hcz10_1 := blkc BK604.out 1 (.slice A0_1 l0_1.length c0_1) rfl; have hcz10_2 := blkc BK604.out 2 (.slice A0_2 l0_2.length c0_2) rfl) | ((with_reducible refine gate_callee (f := 11) rfl ?_); refine goesL_ (some 13) rfl rfl Tryd.func11 (by kernel_rfl) rfl #[.agg #[.int .i64 a0_0, .slice A0_1 l0_1.length c0_1, .slice A0_2 l0_2.length c0_2], .slice A2 l2.length c2] rfl mapz ?_; (with_reducible refine (dropperlaw05_Large.calls a0_0 _ _ l0_1 _ _ l0_2 _ _ l2 true _ ?side1 ?side2 ?side3 ?side4 ?side5 ?side6 A4.out).mono ?_); (case side1 => exact cbz HR0_1); (case side2 => exact HC0_1.out); (case side3 => exact cbz HR0_2); (case side4 => exact HC0_2.out); (case side5 => exact cbz HR2); (case side6 => exact HC2.out); rintro e w11 ⟨rfl, hb⟩; refine ⟨_, rfl, ?_⟩; replace BK604 := Aside0.mk (blk_below (g := gb604) blkz hb); replace BK605 := Aside0.mk (blk_below (g := gb605) blkz hb); replace HB := Aside0.mk (below_step bel hb); (try clear hb); (try clear hb2); (try clear hk); (try clear hi)) | ((with_reducible refine gate_callee (f := 12) rfl ?_); refine goesL_ (some 14) rfl rfl Tryd.func12 (by kernel_rfl) rfl #[] rfl mapz ?_; (with_reducible refine (dropperlaw05_First.calls k  t607 _ ?sideT A6.out).mono ?_); (case sideT => first | exact HT.out | exact Tab.Tabs.below HT.out bel | (with_reducible repeat (first | exact HT.out | apply Tab.Tabs.alloc | apply Tab.Tabs.drewN | apply Tab.Tabs.drew))); rintro e w12 ⟨rfl, hb⟩; refine ⟨_, rfl, ?_⟩; replace BK604 := Aside0.mk (blk_below (g := gb604) blkz hb); replace BK605 := Aside0.mk (blk_below (g := gb605) blkz hb); replace HB := Aside0.mk (below_step bel hb); (try clear hb); (try clear hb2); (try clear hk); (try clear hi)))
  go_ret
  exact ⟨ezz, bel⟩
 ·
  replace c5 := Bool.eq_false_iff.mpr c5
  subst c5
  have H1 : ((feed_Order.f k a0_0 l0_1 l0_2 a1_0 a1_1 l2).bind fun bt608 => ((dropperref05_Order.f k a0_0 l0_1 l0_2 a1_0 a1_1 l2).bind fun bt612 => ((dropperlaw05_SameInts.f k bt608.1 bt612.1).bind fun t616 => (if t616 = true then (if bt608.2 = bt612.2 then ((dropperlaw05_First.f k).bind fun t617 => (some t617)) else (none)) else (none))))) = some r := by rw [if_neg (show ¬ (false = true) by decide)] at H; exact H
  clear H
  have H := H1
  clear H1
  replace H := Option.bind_eq_some_iff.mp H
  obtain ⟨⟨t608, t611⟩, A130, H⟩ := H
  replace H : ((dropperref05_Order.f k a0_0 l0_1 l0_2 a1_0 a1_1 l2).bind fun bt612 => ((dropperlaw05_SameInts.f k t608 bt612.1).bind fun t616 => (if t616 = true then (if t611 = bt612.2 then ((dropperlaw05_First.f k).bind fun t617 => (some t617)) else (none)) else (none)))) = some r := H
  have A13 := Aside0.mk A130
  clear A130
  replace H := Option.bind_eq_some_iff.mp H
  obtain ⟨⟨t612, t615⟩, A140, H⟩ := H
  replace H : ((dropperlaw05_SameInts.f k t608 t612).bind fun t616 => (if t616 = true then (if t611 = t615 then ((dropperlaw05_First.f k).bind fun t617 => (some t617)) else (none)) else (none))) = some r := H
  have A14 := Aside0.mk A140
  clear A140
  replace H := Option.bind_eq_some_iff.mp H
  obtain ⟨t616, A150, H⟩ := H
  replace H : (if t616 = true then (if t611 = t615 then ((dropperlaw05_First.f k).bind fun t617 => (some t617)) else (none)) else (none)) = some r := H
  have A15 := Aside0.mk A150
  clear A150
  by_cases c16 : t616 = true
  ·
   subst c16
   have H1 : (if t611 = t615 then ((dropperlaw05_First.f k).bind fun t617 => (some t617)) else (none)) = some r := by rw [if_pos rfl] at H; exact H
   clear H
   have H := H1
   clear H1
   by_cases c17 : t611 = t615
   ·
    rw [if_pos c17] at H
    have c17b0 : (t611 == t615) = true := beq_iff_eq.mpr c17
    have c17b1 : (t611 != t615) = false := bne_eq_false_iff_eq.mpr c17
    clear c17
    replace H := Option.bind_eq_some_iff.mp H
    obtain ⟨t617, A180, H⟩ := H
    replace H : (some t617) = some r := H
    have A18 := Aside0.mk A180
    clear A180
    obtain rfl := Option.some.inj H
    go_enter Tryd.func8, Tryd.ntmps8
    go_wp2_with (first | ((with_reducible refine gate_dst (N := 3) rfl ?_); refine box_event ?hg (N := 3) ?hd (cs := #[.int .i64 a0_0, .slice A0_1 l0_1.length c0_1, .slice A0_2 l0_2.length c0_2]) (t := 25) ?hr ?_; (case hd => rfl); (case hg => rfl); (case hr => first | (go_simp; done) | (go_simp; rfl)); intro gb604 hg w19 hbox hb; have BK604 := Aside0.mk (hbox); have GW604 := bsz (w := w) hg; have GE604 := GW604; replace HB := Aside0.mk (below_step bel hb); clear hb hbox hg) | ((with_reducible refine gate_dst (N := 4) rfl ?_); refine box_event ?hg (N := 4) ?hd (cs := #[.int .i64 a1_0, .int .i64 a1_1]) (t := 49) ?hr ?_; (case hd => rfl); (case hg => rfl); (case hr => first | (go_simp; done) | (go_simp; rfl)); intro gb605 hg w20 hbox hb; have BK605 := Aside0.mk (hbox); have GW605 := bsz (w := w) hg; have GE605 := GW605; have NB604_605 := neL (g := gb604) hg; have NB605_604 := neR (g := gb604) hg; replace BK604 := Aside0.mk (blk_below (g := gb604) blkz hb); replace HB := Aside0.mk (below_step bel hb); clear hb hbox hg; have hnb21 := NB604_605.out; have hnc21 := NB605_604.out; have hcz22_0 := blkc BK604.out 0 (.int .i64 a0_0) rfl; have hcz22_1 := blkc BK604.out 1 (.slice A0_1 l0_1.length c0_1) rfl; have hcz22_2 := blkc BK604.out 2 (.slice A0_2 l0_2.length c0_2) rfl) | ((with_reducible refine gate_callee (f := 11) rfl ?_); refine goesL_ (some 13) rfl rfl Tryd.func11 (by kernel_rfl) rfl #[.agg #[.int .i64 a0_0, .slice A0_1 l0_1.length c0_1, .slice A0_2 l0_2.length c0_2], .slice A2 l2.length c2] rfl mapz ?_; (with_reducible refine (dropperlaw05_Large.calls a0_0 _ _ l0_1 _ _ l0_2 _ _ l2 false _ ?side1 ?side2 ?side3 ?side4 ?side5 ?side6 A4.out).mono ?_); (case side1 => exact cbz HR0_1); (case side2 => exact HC0_1.out); (case side3 => exact cbz HR0_2); (case side4 => exact HC0_2.out); (case side5 => exact cbz HR2); (case side6 => exact HC2.out); rintro e w23 ⟨rfl, hb⟩; refine ⟨_, rfl, ?_⟩; replace BK604 := Aside0.mk (blk_below (g := gb604) blkz hb); replace BK605 := Aside0.mk (blk_below (g := gb605) blkz hb); replace HB := Aside0.mk (below_step bel hb); (try clear hb); (try clear hb2); (try clear hk); (try clear hi); have hcz24_0 := blkc BK604.out 0 (.int .i64 a0_0) rfl; have hcz24_1 := blkc BK604.out 1 (.slice A0_1 l0_1.length c0_1) rfl; have hcz24_2 := blkc BK604.out 2 (.slice A0_2 l0_2.length c0_2) rfl; have hcz25_0 := blkc BK605.out 0 (.int .i64 a1_0) rfl; have hcz25_1 := blkc BK605.out 1 (.int .i64 a1_1) rfl) | ((with_reducible refine gate_callee (f := 36) rfl ?_); refine goesL_ (some 22) rfl rfl Tryd.func36 (by kernel_rfl) rfl #[.agg #[.int .i64 a0_0, .slice A0_1 l0_1.length c0_1, .slice A0_2 l0_2.length c0_2], .int .i64 a1_0, .int .i64 a1_1, .slice A2 l2.length c2] rfl mapz ?_; (with_reducible refine (feed_Order.calls k a0_0 _ _ l0_1 _ _ l0_2 a1_0 a1_1 _ _ l2 t608 t611 _ ?side1 ?side2 ?side3 ?side4 ?side5 ?side6 ?sideT A13.out).mono ?_); (case sideT => first | exact HT.out | exact Tab.Tabs.below HT.out bel | (with_reducible repeat (first | exact HT.out | apply Tab.Tabs.alloc | apply Tab.Tabs.drewN | apply Tab.Tabs.drew))); (case side1 => exact cbz HR0_1); (case side2 => exact HC0_1.out); (case side3 => exact cbz HR0_2); (case side4 => exact HC0_2.out); (case side5 => exact cbz HR2); (case side6 => exact HC2.out); rintro e w26 ⟨v609, rfl, ho0, hb⟩; refine ⟨_, rfl, ?_⟩; have HO610 := Aside0.mk (Kd.R_lower ho0 (below_size bel)); replace BK604 := Aside0.mk (blk_below (g := gb604) blkz hb); replace BK605 := Aside0.mk (blk_below (g := gb605) blkz hb); replace HB := Aside0.mk (below_step bel hb); (try clear hb); (try clear hb2); (try clear hk); (try clear hi); (try clear ho0); have hcz27_0 := blkc BK604.out 0 (.int .i64 a0_0) rfl; have hcz27_1 := blkc BK604.out 1 (.slice A0_1 l0_1.length c0_1) rfl; have hcz27_2 := blkc BK604.out 2 (.slice A0_2 l0_2.length c0_2) rfl; have hcz28_0 := blkc BK605.out 0 (.int .i64 a1_0) rfl; have hcz28_1 := blkc BK605.out 1 (.int .i64 a1_1) rfl) | ((with_reducible refine gate_callee (f := 37) rfl ?_); refine goesL_ (some 32) rfl rfl Tryd.func37 (by kernel_rfl) rfl #[.agg #[.int .i64 a0_0, .slice A0_1 l0_1.length c0_1, .slice A0_2 l0_2.length c0_2], .int .i64 a1_0, .int .i64 a1_1, .slice A2 l2.length c2] rfl mapz ?_; (with_reducible refine (dropperref05_Order.calls k a0_0 _ _ l0_1 _ _ l0_2 a1_0 a1_1 _ _ l2 t612 t615 _ ?side1 ?side2 ?side3 ?side4 ?side5 ?side6 A14.out).mono ?_); (case side1 => exact cbz HR0_1); (case side2 => exact HC0_1.out); (case side3 => exact cbz HR0_2); (case side4 => exact HC0_2.out); (case side5 => exact cbz HR2); (case side6 => exact HC2.out); rintro e w29 ⟨v613, rfl, ho0, hb⟩; refine ⟨_, rfl, ?_⟩; have HO614 := Aside0.mk (Kd.R_lower (Kd.R_new' ho0 (Kd.R_lt (ownx HO610))) (below_size bel)); replace HO610 := Aside0.mk (Kd.R_elder' (ownx HO610) (Kd.R_base ho0) hb); replace BK604 := Aside0.mk (blk_below (g := gb604) blkz hb); replace BK605 := Aside0.mk (blk_below (g := gb605) blkz hb); replace HB := Aside0.mk (below_step bel hb); (try clear hb); (try clear hb2); (try clear hk); (try clear hi); (try clear ho0); obtain ⟨Ao30, co30, eo30⟩ := Kd.R_slice HO610.out; subst eo30; obtain ⟨Ao31, co31, eo31⟩ := Kd.R_slice HO614.out; subst eo31) | ((with_reducible refine gate_callee (f := 21) rfl ?_); refine goesL_ (some 37) rfl rfl Tryd.func21 (by kernel_rfl) rfl #[.slice Ao30 t608.length co30, .slice Ao31 t612.length co31] rfl mapz ?_; (with_reducible refine (dropperlaw05_SameInts.calls k _ _ t608 _ _ t612 true _ ?side1 ?side2 ?side3 ?side4 A15.out).mono ?_); (case side1 => repeat (first | exact (Kd.R_reads' HO610.out).2.2 | (with_reducible refine Kd.C_alloc ?_ _) | (with_reducible refine Kd.C_drewN ?_ _) | (with_reducible refine Kd.C_drew ?_))); (case side2 => exact (Kd.R_reads' HO610.out).2.1); (case side3 => repeat (first | exact (Kd.R_reads' HO614.out).2.2 | (with_reducible refine Kd.C_alloc ?_ _) | (with_reducible refine Kd.C_drewN ?_ _) | (with_reducible refine Kd.C_drew ?_))); (case side4 => exact (Kd.R_reads' HO614.out).2.1); rintro e w' ⟨rfl, ⟨nd, rfl⟩⟩; refine ⟨_, rfl, ?_⟩) | (go_at_call 12; (with_reducible refine (dropperlaw05_First.calls k  t617 _ ?sideT A18.out).mono ?_); (case sideT => first | exact HT.out | exact Tab.Tabs.below HT.out bel | (with_reducible repeat (first | exact HT.out | apply Tab.Tabs.alloc | apply Tab.Tabs.drewN | apply Tab.Tabs.drew))); rintro e w32 ⟨rfl, hb⟩; replace HO610 := Aside0.mk (Kd.R_below (ownx HO610) hb); replace HO614 := Aside0.mk (Kd.R_below (ownx HO614) hb); replace BK604 := Aside0.mk (blk_below (g := gb604) blkz hb); replace BK605 := Aside0.mk (blk_below (g := gb605) blkz hb); replace HB := Aside0.mk (below_step bel hb); (try clear hb); (try clear hb2); (try clear hk); (try clear hi)))
    go_ret
    exact ⟨ezz, bel⟩
   ·
    rw [if_neg c17] at H
    exact absurd H (by simp)
  ·
   replace c16 := Bool.eq_false_iff.mpr c16
   subst c16
   have H1 : (none) = some r := by rw [if_neg (show ¬ (false = true) by decide)] at H; exact H
   clear H
   have H := H1
   clear H1
   exact absurd H (by simp)

end Go.Proofs.YtoilhnmdemnknaaDoor.XFeed
-- Written by wip/xprint.py of this repo, over the kit's print.py: out of the translation; the oracles in it are by hand. Not trusted: Lean checks it.
namespace Go.Proofs.YtoilhnmdemnknaaDoor.XFeed
open Go.RowKit Go.Proofs.YtoilhnmdemnknaaDoor.XFeed Go.Proofs.YtoilhnmdemnknaaDoorW.PrintWords Go.Proofs.YtoilhnmdemnknaaDoorW.PrintLast Go.Proofs.YtoilhnmdemnknaaDoorW.PrintMore
def dropperlaw05_FeedOrders.Pure : Prop := ∀ (a0_0 : Int) (l0_1 : List (S69)) (l0_2 : List (S71)) (a1_0 : Int) (a1_1 : Int) (l2 : List Int), ((Lit.int .i64 a0_0).wf = true) → (l0_1.length ≤ 9223372036854775807 ∧ ∀ y0 ∈ l0_1, ((Lit.int .i64 y0.f0).wf = true) ∧ ((Lit.int .i64 y0.f1).wf = true)) → (l0_2.length ≤ 9223372036854775807 ∧ ∀ y0 ∈ l0_2, ((Lit.int .i64 y0.f0).wf = true) ∧ ((Lit.int .i64 y0.f1).wf = true)) → ((Lit.int .i64 a1_0).wf = true) → ((Lit.int .i64 a1_1).wf = true) → (l2.length ≤ 9223372036854775807 ∧ ∀ y0 ∈ l2, (Lit.int .i64 y0).wf = true) → ∃ k, dropperlaw05_FeedOrders.f k a0_0 l0_1 l0_2 a1_0 a1_1 l2 = some true
end Go.Proofs.YtoilhnmdemnknaaDoor.XFeed

namespace Go.Proofs.YtoilhnmdemnknaaDoor.XFeed
open Go.RowKit Go.Proofs.YtoilhnmdemnknaaDoorW.PrintWords Go.Proofs.YtoilhnmdemnknaaDoorW.PrintLast Go.Proofs.YtoilhnmdemnknaaDoorW.PrintMore
attribute [local go_sem] max2_int min2_int max_two min_two max_three min_three max_four min_four   -- for this text's walks alone
set_option linter.unusedVariables false
set_option linter.unusedSimpArgs false
/-! ### feed_grid_switches: function 70 -/
theorem feed_grid_switches.within_calls (a b c : Int) (w : World) :
  Calls Tryd.prog 53 #[.int .i64 a, .int .i64 b, .int .i64 c] w fun e w' => e = .returned (.bool (decide (a ≤ b) && decide (b ≤ c))) ∧ Drawn0 w w' := by
 by_cases h1 : a ≤ b
 ·
  have h1' : decide (a ≤ b) = true := decide_eq_true h1
  go_enter Tryd.func53, Tryd.ntmps53
  go_wp2
  go_ret
  exact ⟨by simp [h1], Drawn0.refl _⟩
 ·
  have h1' : decide (a ≤ b) = false := decide_eq_false h1
  go_enter Tryd.func53, Tryd.ntmps53
  go_wp2
  go_ret
  exact ⟨by simp [h1], Drawn0.refl _⟩
def feed_grid_switches.bad (n : Int) (x : Int) : Bool := !(decide (0 ≤ x) && decide (x ≤ wrap64 (n - 1)))
set_option maxHeartbeats 2000000 in
set_option maxRecDepth 100000 in
theorem feed_grid_switches.clos (n : Int) (g : Nat) (A : Option Addr) (len c : Nat) (x : Int) (w : World) (hn : n = (len : Int)) (hcap : w.cell? ⟨g, 1, none⟩ = some (.slice A len c)) :
  Calls Tryd.prog 96 #[.int .i64 x, .pointer (some ⟨g, 0, none⟩)] w fun e w' => e = .returned (.bool (feed_grid_switches.bad n x)) ∧ Below w.heap.size w w' := by
 subst hn
 have hu0 := Tryd.underlying73
 have hu1 := Tryd.underlying25
 by_cases h0 : (decide (0 ≤ x) && decide (x ≤ wrap64 ((len : Int) - 1))) = true
 ·
  skip
  have hE : Aside0 ((feed_grid_switches.bad (len : Int) x) = false) := ⟨by simp only [feed_grid_switches.bad, h0, Bool.not_true, Bool.false_or]⟩
  have H0 := Aside0.mk h0
  clear h0
  go_enter Tryd.func96, Tryd.ntmps96
  go_wp2_with (first | (go_at_call 53; (with_reducible refine (feed_grid_switches.within_calls 0 x (wrap64 ((len : Int) - 1)) _).mono ?_); rintro e w' ⟨rfl, ⟨nd_, rfl⟩⟩; rw [H0.out]))
  go_ret
  exact ⟨by rw [hE.out]; rfl, by repeat (first | exact Below.refl _ _ | apply pw_below_drewN)⟩
 ·
  replace h0 := Bool.eq_false_iff.mpr h0
  have hE : Aside0 ((feed_grid_switches.bad (len : Int) x) = true) := ⟨by simp only [feed_grid_switches.bad, h0, Bool.not_true, Bool.not_false, Bool.false_or, Bool.true_or]⟩
  have H0 := Aside0.mk h0
  clear h0
  go_enter Tryd.func96, Tryd.ntmps96
  go_wp2_with (first | (go_at_call 53; (with_reducible refine (feed_grid_switches.within_calls 0 x (wrap64 ((len : Int) - 1)) _).mono ?_); rintro e w' ⟨rfl, ⟨nd_, rfl⟩⟩; rw [H0.out]))
  go_ret
  exact ⟨by rw [hE.out]; rfl, by repeat (first | exact Below.refl _ _ | apply pw_below_drewN)⟩
theorem feed_grid_switches.enter (vs : Array Value) (W : World) : (callFunc 96 vs).run Tryd.prog W = .ok (.enter 96 vs) W := enters_ Tryd.func96 (by kernel_rfl) (by kernel_rfl) vs W
def feed_grid_switches.f (a0_0 : Int) (l0_1 : List S69) (l0_2 : List S71) (l1 : List Int) : Option Bool := some (decide ((l1.length : Int) ≤ 1000) && !(l1.any (feed_grid_switches.bad (l0_1.length : Int))))
/-! ### feed_IsOrder: function 32 -/
mutual
def feed_IsOrder.j0 : Nat → Int → List Int → Int → Bool → Int → List (S69) → List (S71) → List Int → Option (Bool × Int)
 | 0, _, _, _, _, _, _, _, _ => none
 | k + 1, x1, x3, x11, x21, x504000, x504001, x504002, x504003 => if x21 = true then (some (false, 2)) else (if x11 = 0 then (feed_IsOrder.l0 k x1 x3 (x3.length : Int) 0 x504000 x504001 x504002 x504003) else (some (false, x11)))
def feed_IsOrder.l0 : Nat → Int → List Int → Int → Int → Int → List (S69) → List (S71) → List Int → Option (Bool × Int)
 | 0, _, _, _, _, _, _, _, _ => none
 | k + 1, x1, x35, x36, x37, x504000, x504001, x504002, x504003 => if x37 < x36 then (if 0 ≤ x37 then (if x37 < (x35.length : Int) then ((feed_rule_steps.f k x504000 x504001 x504002 x504003 x1).bind fun t506 => (if 0 ≤ (rd x35 x37) then (if (rd x35 x37) < (t506.length : Int) then (if (rd t506 (rd x35 x37)) < 0 then (some (false, 0)) else (feed_IsOrder.l0 k (rd t506 (rd x35 x37)) x35 x36 (wrap64 (x37 + 1)) x504000 x504001 x504002 x504003)) else (none)) else (none))) else (none)) else (none)) else (some (true, 0))
end
def feed_IsOrder.f (k : Nat) (a0_0 : Int) (l0_1 : List (S69)) (l0_2 : List (S71)) (a1 : Int) (l2 : List Int) (l3 : List Int) : Option (Bool × Int) := (feed_ruled.f k a0_0 l0_1 l0_2 a1 l2).bind fun bt492 => (if bt492.2 = 0 then ((feed_grid_switches.f bt492.1 l0_1 l0_2 l3).bind fun t504 => (feed_IsOrder.j0 k a1 l3 bt492.2 (!t504) bt492.1 l0_1 l0_2 l2)) else (feed_IsOrder.j0 k a1 l3 bt492.2 false bt492.1 l0_1 l0_2 l2))
/-! ### feed_After: function 34 -/
def feed_After.l0 : Nat → Int → List Int → Int → Int → Option (Int × Int)
 | 0, _, _, _, _ => none
 | k + 1, x1, x27, x28, x29 => if x29 < x28 then (if 0 ≤ x29 then (if x29 < (x27.length : Int) then (if 0 ≤ (rd x27 x29) then (feed_After.l0 k (Go.bits .xor .i64 x1 (shl .i64 1 (rd x27 x29))) x27 x28 (wrap64 (x29 + 1))) else (none)) else (none)) else (none)) else (some (x1, 0))
/-! ### dropperref05_isList: function 73 -/
def dropperref05_isList.l0 : Nat → List Int → Int → Int → List (S69) → List (S71) → Option (Bool)
 | 0, _, _, _, _, _ => none
 | k + 1, x1, x5, x528000, x528001, x528002 => if x5 < (x1.length : Int) then (if 0 ≤ x5 then (if (rd x1 x5) < 0 then (some false) else (if (rd x1 x5) ≥ (x528001.length : Int) then (some false) else (dropperref05_isList.l0 k x1 (wrap64 (x5 + 1)) x528000 x528001 x528002))) else (none)) else (some (decide ((x1.length : Int) ≤ 1000)))
def dropperref05_isList.f (k : Nat) (a0_0 : Int) (l0_1 : List (S69)) (l0_2 : List (S71)) (l1 : List Int) : Option (Bool) := dropperref05_isList.l0 k l1 0 a0_0 l0_1 l0_2
/-! ### dropperref05_IsOrder: function 33 -/
def dropperref05_IsOrder.l0 : Nat → Int → List Int → List Int → Int → Int → List (S69) → List (S71) → Option (Bool × Int)
 | 0, _, _, _, _, _, _, _ => none
 | k + 1, x1, x2, x3, x11, x531000, x531001, x531002 => if x11 < (x3.length : Int) then (if 0 ≤ x11 then (if 0 ≤ (rd x3 x11) then ((dropperref05_Good.f k x531000 x531001 x531002 (Go.bits .xor .i64 x1 (shl .i64 1 (rd x3 x11))) x2).bind fun t534 => (if t534 = true then (dropperref05_IsOrder.l0 k (Go.bits .xor .i64 x1 (shl .i64 1 (rd x3 x11))) x2 x3 (wrap64 (x11 + 1)) x531000 x531001 x531002) else (some (false, 0)))) else (none)) else (none)) else (some (true, 0))
def dropperref05_IsOrder.f (k : Nat) (a0_0 : Int) (l0_1 : List (S69)) (l0_2 : List (S71)) (a1 : Int) (l2 : List Int) (l3 : List Int) : Option (Bool × Int) := (dropperref05_begun.f k a0_0 l0_1 l0_2 a1 l2).bind fun t531 => (if t531 = 0 then ((dropperref05_isList.f k a0_0 l0_1 l0_2 l3).bind fun t532 => (if t532 = true then (dropperref05_IsOrder.l0 k a1 l2 l3 0 a0_0 l0_1 l0_2) else (some (false, 2)))) else (some (false, t531)))
/-! ### dropperref05_asked: function 48 -/
def dropperref05_asked.f (k : Nat) (a0_0 : Int) (l0_1 : List (S69)) (l0_2 : List (S71)) (a1 : Int) : Option (Int) := (dropperref05_Valid.f k a0_0 l0_1 l0_2).bind fun t245 => (if t245 = true then ((dropperref05_IsState.f a0_0 l0_1 l0_2 a1).bind fun t246 => (if t246 = true then (some 0) else (some 51))) else (some 50))
/-! ### dropperref05_After: function 35 -/
def dropperref05_After.l0 : Nat → Int → List Int → Int → Option (Int × Int)
 | 0, _, _, _ => none
 | k + 1, x1, x2, x9 => if x9 < (x2.length : Int) then (if 0 ≤ x9 then (if 0 ≤ (rd x2 x9) then (dropperref05_After.l0 k (Go.bits .xor .i64 x1 (shl .i64 1 (rd x2 x9))) x2 (wrap64 (x9 + 1))) else (none)) else (none)) else (some (x1, 0))
/-! ### dropperref05_Why: function 25 -/
def dropperref05_Why.f (k : Nat) (a0_0 : Int) (l0_1 : List (S69)) (l0_2 : List (S71)) (a1 : Int) (a2 : Int) : Option (Int) := (dropperref05_asked.f k a0_0 l0_1 l0_2 a1).bind fun t362 => (if t362 = 0 then ((dropperref05_section.f a0_0 l0_1 l0_2 a2).bind fun t363 => (if t363 = true then (some 0) else (some 2))) else (some t362))
/-! ### dropperref05_At: function 26 -/
def dropperref05_At.l0 : Nat → Int → Int → Int → List (S69) → List (S71) → Option (Bool)
 | 0, _, _, _, _, _ => none
 | k + 1, x1, x5, x378000, x378001, x378002 => if x5 < (x378002.length : Int) then (if 0 ≤ x5 then (if ((rd_T71 x378002 x5).f0) = x1 then (some true) else (dropperref05_At.l0 k x1 (wrap64 (x5 + 1)) x378000 x378001 x378002)) else (none)) else (some false)
/-! ### dropperref05_Fewest: function 27 -/
mutual
def dropperref05_Fewest.l0 : Nat → Int → Int → Int → Int → Int → List (S69) → List (S71) → Option (Int)
 | 0, _, _, _, _, _, _, _ => none
 | k + 1, x1, x2, x7, x8, x380000, x380001, x380002 => if x8 < (shl .i64 1 (x380001.length : Int)) then (if (Go.bits .and .i64 x8 x1) = x8 then ((dropperref05_live.f k x380000 x380001 x380002 (wrap64 (x1 - x8))).bind fun t380 => (if 0 ≤ x2 then (if x2 < (t380.length : Int) then (dropperref05_Fewest.j1 k x1 x2 x7 x8 ((rd t380 x2) != 0) x380000 x380001 x380002) else (none)) else (none))) else (dropperref05_Fewest.j1 k x1 x2 x7 x8 true x380000 x380001 x380002)) else (some x7)
def dropperref05_Fewest.j1 : Nat → Int → Int → Int → Int → Bool → Int → List (S69) → List (S71) → Option (Int)
 | 0, _, _, _, _, _, _, _, _ => none
 | k + 1, x1, x2, x7, x8, x37, x380000, x380001, x380002 => if x37 = true then (dropperref05_Fewest.l0 k x1 x2 x7 (wrap64 (x8 + 1)) x380000 x380001 x380002) else (dropperref05_Fewest.l1 k x1 x2 x7 x8 0 0 x380000 x380001 x380002)
def dropperref05_Fewest.l1 : Nat → Int → Int → Int → Int → Int → Int → Int → List (S69) → List (S71) → Option (Int)
 | 0, _, _, _, _, _, _, _, _, _ => none
 | k + 1, x1, x2, x7, x8, x9, x10, x380000, x380001, x380002 => if x10 < (x380001.length : Int) then ((dropperref05_closed.f x8 x10).bind fun t384 => (if t384 = true then (dropperref05_Fewest.l1 k x1 x2 x7 x8 (wrap64 (x9 + 1)) (wrap64 (x10 + 1)) x380000 x380001 x380002) else (dropperref05_Fewest.l1 k x1 x2 x7 x8 x9 (wrap64 (x10 + 1)) x380000 x380001 x380002))) else (dropperref05_Fewest.l0 k x1 x2 (mn x7 x9) (wrap64 (x8 + 1)) x380000 x380001 x380002)
end
def dropperref05_Fewest.f (k : Nat) (a0_0 : Int) (l0_1 : List (S69)) (l0_2 : List (S71)) (a1 : Int) (a2 : Int) : Option (Int) := dropperref05_Fewest.l0 k a1 a2 (l0_1.length : Int) 0 a0_0 l0_1 l0_2
/-! ### dropperref05_Isolates: function 23 -/
mutual
def dropperref05_Isolates.l0 : Nat → Int → Int → List Int → Int → Int → List (S69) → List (S71) → Option (Bool × Int)
 | 0, _, _, _, _, _, _, _ => none
 | k + 1, x1, x2, x3, x11, x365000, x365001, x365002 => if x11 < (x3.length : Int) then (if 0 ≤ x11 then (if (rd x3 x11) < 0 then (some (false, 0)) else (if (rd x3 x11) ≥ (x365001.length : Int) then (some (false, 0)) else ((dropperref05_closed.f x1 (rd x3 x11)).bind fun t369 => (if t369 = true then (if x11 > 0 then (if 0 ≤ (wrap64 (x11 - 1)) then (if (wrap64 (x11 - 1)) < (x3.length : Int) then (if (rd x3 x11) ≤ (rd x3 (wrap64 (x11 - 1))) then (some (false, 0)) else (dropperref05_Isolates.l0 k x1 x2 x3 (wrap64 (x11 + 1)) x365000 x365001 x365002)) else (none)) else (none)) else (dropperref05_Isolates.l0 k x1 x2 x3 (wrap64 (x11 + 1)) x365000 x365001 x365002)) else (some (false, 0)))))) else (none)) else (dropperref05_Isolates.l1 k x1 x2 x3 0 x365000 x365001 x365002)
def dropperref05_Isolates.l1 : Nat → Int → Int → List Int → Int → Int → List (S69) → List (S71) → Option (Bool × Int)
 | 0, _, _, _, _, _, _, _ => none
 | k + 1, x1, x2, x3, x12, x365000, x365001, x365002 => if x12 < (x3.length : Int) then (if 0 ≤ x12 then (if 0 ≤ (rd x3 x12) then (dropperref05_Isolates.l1 k (wrap64 (x1 - (shl .i64 1 (rd x3 x12)))) x2 x3 (wrap64 (x12 + 1)) x365000 x365001 x365002) else (none)) else (none)) else ((dropperref05_live.f k x365000 x365001 x365002 x1).bind fun t373 => (if 0 ≤ x2 then (if x2 < (t373.length : Int) then (some (((rd t373 x2) == 0), 0)) else (none)) else (none)))
end
def dropperref05_Isolates.f (k : Nat) (a0_0 : Int) (l0_1 : List (S69)) (l0_2 : List (S71)) (a1 : Int) (a2 : Int) (l3 : List Int) : Option (Bool × Int) := (dropperref05_Why.f k a0_0 l0_1 l0_2 a1 a2).bind fun t365 => (if t365 = 0 then (dropperref05_Isolates.l0 k a1 a2 l3 0 a0_0 l0_1 l0_2) else (some (false, t365)))
/-! ### feed_Isolates: function 22 -/
def feed_Isolates.l0 : Nat → Int → Int → List Int → Int → List Int → Int → Int → Int → List (S69) → List (S71) → Int → List (S69) → List (S71) → Option (Bool × Int)
 | 0, _, _, _, _, _, _, _, _, _, _, _, _, _ => none
 | k + 1, x1, x2, x3, x12, x26, x27, x28, x348000, x348001, x348002, x357000, x357001, x357002 => if x28 < x27 then (if 0 ≤ x28 then (if x28 < (x26.length : Int) then ((feed_within.f 0 (rd x26 x28) (wrap64 ((x348001.length : Int) - 1))).bind fun t358 => (if t358 = true then (if 0 ≤ (rd x26 x28) then (if (Go.bits .and .i64 (shr .i64 x1 (rd x26 x28)) 1) = 0 then (some (false, 0)) else (if x28 > 0 then (if 0 ≤ (wrap64 (x28 - 1)) then (if (wrap64 (x28 - 1)) < (x3.length : Int) then (if (rd x26 x28) ≤ (rd x3 (wrap64 (x28 - 1))) then (some (false, 0)) else (feed_Isolates.l0 k x1 x2 x3 (Go.bits .andNot .i64 x12 (shl .i64 1 (rd x26 x28))) x26 x27 (wrap64 (x28 + 1)) x348000 x348001 x348002 x357000 x357001 x357002)) else (none)) else (none)) else (feed_Isolates.l0 k x1 x2 x3 (Go.bits .andNot .i64 x12 (shl .i64 1 (rd x26 x28))) x26 x27 (wrap64 (x28 + 1)) x348000 x348001 x348002 x357000 x357001 x357002))) else (none)) else (some (false, 0)))) else (none)) else (none)) else ((feed_grid_dead.f k x357000 x357001 x357002 x12 x2).bind fun t360 => (some (t360, 0)))
def feed_Isolates.f (k : Nat) (a0_0 : Int) (l0_1 : List (S69)) (l0_2 : List (S71)) (a1 : Int) (a2 : Int) (l3 : List Int) : Option (Bool × Int) := (feed_asked.f a0_0 l0_1 l0_2 a1 a2).bind fun bt348 => (if bt348.2 = 0 then (feed_Isolates.l0 k a1 a2 l3 a1 l3 (l3.length : Int) 0 a0_0 l0_1 l0_2 bt348.1 l0_1 l0_2) else (some (false, bt348.2)))
/-! ### dropperref05_States: function 18 -/
def dropperref05_States.l0 : Nat → Int → Int → Int → List (S69) → List (S71) → Option (Int × Int)
 | 0, _, _, _, _, _ => none
 | k + 1, x4, x5, x298000, x298001, x298002 => if x5 < (shl .i64 1 (x298001.length : Int)) then ((dropperref05_right.f k x298000 x298001 x298002 x5).bind fun t299 => (if t299 = true then (dropperref05_States.l0 k (wrap64 (x4 + 1)) (wrap64 (x5 + 1)) x298000 x298001 x298002) else (dropperref05_States.l0 k x4 (wrap64 (x5 + 1)) x298000 x298001 x298002))) else (some (x4, 0))
def dropperref05_States.f (k : Nat) (a0_0 : Int) (l0_1 : List (S69)) (l0_2 : List (S71)) : Option (Int × Int) := (dropperref05_Valid.f k a0_0 l0_1 l0_2).bind fun t298 => (if t298 = true then (dropperref05_States.l0 k 0 0 a0_0 l0_1 l0_2) else (some (0, 50)))
/-! ### dropperref05_Live: function 14 -/
/-! ### dropperref05_Right: function 16 -/
/-! ### feed_Live: function 13 -/
/-! ### feed_Right: function 15 -/
end Go.Proofs.YtoilhnmdemnknaaDoor.XFeed
/- Go's bit operations on small numbers, as those of Nat. -/
namespace Go.Proofs.YtoilhnmdemnknaaDoor.Plain
open Go.RowKit Go.Proofs.YtoilhnmdemnknaaDoorW.PrintWords Go.Proofs.YtoilhnmdemnknaaDoorW.PrintLast Go.Proofs.YtoilhnmdemnknaaDoorW.PrintMore

theorem wrapU {n : Nat} (h : n < 2 ^ 62) : IntKind.u64.wrap (n : Int) = (n : Int) := by
 have e : IntKind.u64.wrap (n : Int) = (n : Int) % 18446744073709551616 := by simp [IntKind.wrap, IntKind.bits, IntKind.signed]
 rw [e]; omega
theorem wrapI {n : Nat} (h : n < 2 ^ 62) : IntKind.i64.wrap (n : Int) = (n : Int) := by
 rw [IntKind.wrap_i64]; omega
theorem ofInt_nat {w n : Nat} : BitVec.ofInt w (n : Int) = BitVec.ofNat w n := by simp
theorem and_u {x y : Nat} (hx : x < 2 ^ 62) (hy : y < 2 ^ 62) : Go.bits .and .u64 (x : Int) (y : Int) = ((x &&& y : Nat) : Int) := by
 have h : x &&& y < 2 ^ 62 := Nat.and_lt_two_pow x hy
 simp only [Go.bits, ofInt_nat, BitVec.toNat_and, BitVec.toNat_ofNat]
 rw [show IntKind.u64.bits = 64 from rfl, Nat.mod_eq_of_lt (show x < 2 ^ 64 by omega), Nat.mod_eq_of_lt (show y < 2 ^ 64 by omega)]
 exact wrapU h
theorem or_u {x y : Nat} (hx : x < 2 ^ 62) (hy : y < 2 ^ 62) : Go.bits .or .u64 (x : Int) (y : Int) = ((x ||| y : Nat) : Int) := by
 have h : x ||| y < 2 ^ 62 := Nat.or_lt_two_pow hx hy
 simp only [Go.bits, ofInt_nat, BitVec.toNat_or, BitVec.toNat_ofNat]
 rw [show IntKind.u64.bits = 64 from rfl, Nat.mod_eq_of_lt (show x < 2 ^ 64 by omega), Nat.mod_eq_of_lt (show y < 2 ^ 64 by omega)]
 exact wrapU h
theorem and_i {x y : Nat} (hx : x < 2 ^ 62) (hy : y < 2 ^ 62) : Go.bits .and .i64 (x : Int) (y : Int) = ((x &&& y : Nat) : Int) := by
 have h : x &&& y < 2 ^ 62 := Nat.and_lt_two_pow x hy
 simp only [Go.bits, ofInt_nat, BitVec.toNat_and, BitVec.toNat_ofNat]
 rw [show IntKind.i64.bits = 64 from rfl, Nat.mod_eq_of_lt (show x < 2 ^ 64 by omega), Nat.mod_eq_of_lt (show y < 2 ^ 64 by omega)]
 exact wrapI h
theorem xor_i {x y : Nat} (hx : x < 2 ^ 62) (hy : y < 2 ^ 62) : Go.bits .xor .i64 (x : Int) (y : Int) = ((x ^^^ y : Nat) : Int) := by
 have h : x ^^^ y < 2 ^ 62 := Nat.xor_lt_two_pow hx hy
 simp only [Go.bits, ofInt_nat, BitVec.toNat_xor, BitVec.toNat_ofNat]
 rw [show IntKind.i64.bits = 64 from rfl, Nat.mod_eq_of_lt (show x < 2 ^ 64 by omega), Nat.mod_eq_of_lt (show y < 2 ^ 64 by omega)]
 exact wrapI h
theorem shr_k {k : IntKind} (hk : k.bits = 64) {x i : Nat} (hi : i ≤ 64) : shr k (x : Int) (i : Int) = ((x >>> i : Nat) : Int) := by
 unfold shr
 rw [hk, Int.toNat_natCast, Nat.min_eq_left hi, Nat.shiftRight_eq_div_pow]
 simp
theorem shl_u {x i : Nat} (h : x * 2 ^ i < 2 ^ 62) (hi : i ≤ 64) : shl .u64 (x : Int) (i : Int) = ((x <<< i : Nat) : Int) := by
 unfold shl
 rw [show IntKind.u64.bits = 64 from rfl, Int.toNat_natCast, Nat.min_eq_left hi, Nat.shiftLeft_eq]
 have e : (x : Int) * 2 ^ i = ((x * 2 ^ i : Nat) : Int) := by simp
 rw [e]; exact wrapU h
theorem shl_i {x i : Nat} (h : x * 2 ^ i < 2 ^ 62) (hi : i ≤ 64) : shl .i64 (x : Int) (i : Int) = ((x <<< i : Nat) : Int) := by
 unfold shl
 rw [show IntKind.i64.bits = 64 from rfl, Int.toNat_natCast, Nat.min_eq_left hi, Nat.shiftLeft_eq]
 have e : (x : Int) * 2 ^ i = ((x * 2 ^ i : Nat) : Int) := by simp
 rw [e]; exact wrapI h
theorem bit_u {x i : Nat} (hx : x < 2 ^ 62) (hi : i ≤ 64) : Go.bits .and .u64 (shr .u64 (x : Int) (i : Int)) 1 = (if x.testBit i then 1 else 0 : Int) := by
 have h : x >>> i < 2 ^ 62 := Nat.lt_of_le_of_lt (by rw [Nat.shiftRight_eq_div_pow]; exact Nat.div_le_self _ _) hx
 rw [shr_k rfl hi, show (1 : Int) = ((1 : Nat) : Int) from rfl, and_u h (by omega), Nat.testBit, Nat.and_comm]
 have : 1 &&& x >>> i = (x >>> i) % 2 := by rw [Nat.and_comm, Nat.and_one_is_mod]
 rw [this]
 rcases Nat.mod_two_eq_zero_or_one (x >>> i) with h | h <;> simp [h]
theorem bit_i {x i : Nat} (hx : x < 2 ^ 62) (hi : i ≤ 64) : Go.bits .and .i64 (shr .i64 (x : Int) (i : Int)) 1 = (if x.testBit i then 1 else 0 : Int) := by
 have h : x >>> i < 2 ^ 62 := Nat.lt_of_le_of_lt (by rw [Nat.shiftRight_eq_div_pow]; exact Nat.div_le_self _ _) hx
 rw [shr_k rfl hi, show (1 : Int) = ((1 : Nat) : Int) from rfl, and_i h (by omega), Nat.testBit, Nat.and_comm]
 have : 1 &&& x >>> i = (x >>> i) % 2 := by rw [Nat.and_comm, Nat.and_one_is_mod]
 rw [this]
 rcases Nat.mod_two_eq_zero_or_one (x >>> i) with h | h <;> simp [h]
end Go.Proofs.YtoilhnmdemnknaaDoor.Plain

/- The sections to which one comes over closed switches, as the program reckons them. -/
namespace Go.Proofs.YtoilhnmdemnknaaDoor.Plain
set_option linter.unusedVariables false
set_option linter.unusedSimpArgs false
open Go.RowKit Go.Proofs.YtoilhnmdemnknaaDoor.XFeed Go.Proofs.YtoilhnmdemnknaaDoorW.PrintWords Go.Proofs.YtoilhnmdemnknaaDoorW.PrintLast Go.Proofs.YtoilhnmdemnknaaDoorW.PrintMore

theorem ev_const {α : Type} {o : Option α} {r : α} (h : o = some r) : Ev (fun _ => o) r := ⟨0, fun _ _ => h⟩
theorem ev_pos {α : Type} {c : Prop} [Decidable c] {a b : Nat → Option α} {r : α} (hc : c) (h : Ev a r) : Ev (fun k => if c then a k else b k) r :=
 Ev.congr (fun k => if_pos hc) h
theorem ev_neg {α : Type} {c : Prop} [Decidable c] {a b : Nat → Option α} {r : α} (hc : ¬ c) (h : Ev b r) : Ev (fun k => if c then a k else b k) r :=
 Ev.congr (fun k => if_neg hc) h
theorem ev_some {α β : Type} {a : α} {f : Nat → α → Option β} {r : β} (h : Ev (fun k => f k a) r) : Ev (fun k => (some a).bind (f k)) r := h
theorem wrap_id {x : Int} (h0 : -9223372036854775808 ≤ x) (h1 : x ≤ 9223372036854775807) : wrap64 x = x := by unfold wrap64; omega
theorem wrap_succ (n : Nat) (h : n ≤ 4000000000000000000) : wrap64 ((n : Int) + 1) = ((n + 1 : Nat) : Int) := by rw [wrap_id] <;> omega

def SwOk (n : Nat) (sw : List S69) : Prop := ∀ s ∈ sw, 0 ≤ s.f0 ∧ s.f0 < n ∧ 0 ≤ s.f1 ∧ s.f1 < n ∧ s.f0 ≠ s.f1
def Edge (sw : List S69) (st a b : Nat) : Prop := ∃ i, ∃ h : i < sw.length, st.testBit i = true ∧ ((sw[i].f0 = a ∧ sw[i].f1 = b) ∨ (sw[i].f0 = b ∧ sw[i].f1 = a))
inductive Conn (sw : List S69) (st : Nat) (a : Nat) : Nat → Prop
 | refl : Conn sw st a a
 | step {b c : Nat} : Conn sw st a b → Edge sw st b c → Conn sw st a c
theorem rd_S69 (xs : List S69) (i : Nat) (h : i < xs.length) : rd_T69 xs (i : Int) = xs[i] := by simp [rd_T69, List.getD_eq_getElem?_getD, h]

def two (a b : Nat) : Nat := 1 <<< a ||| 1 <<< b
theorem two_bit (a b j : Nat) : (two a b).testBit j = (decide (j = a) || decide (j = b)) := by
 simp only [two, Nat.testBit_or, Nat.one_shiftLeft, Nat.testBit_two_pow]
 rw [show decide (a = j) = decide (j = a) from decide_eq_decide.2 eq_comm, show decide (b = j) = decide (j = b) from decide_eq_decide.2 eq_comm]
theorem two_lt {a b : Nat} (ha : a < 8) (hb : b < 8) : two a b < 256 := by
 have h1 : 1 <<< a < 2 ^ 8 := by rw [Nat.one_shiftLeft]; exact Nat.pow_lt_pow_right (by decide) ha
 have h2 : 1 <<< b < 2 ^ 8 := by rw [Nat.one_shiftLeft]; exact Nat.pow_lt_pow_right (by decide) hb
 exact Nat.or_lt_two_pow h1 h2
theorem and_two_zero {m a b : Nat} : m &&& two a b = 0 ↔ m.testBit a = false ∧ m.testBit b = false := by
 constructor
 ·
  intro h
  have h2 := fun j => congrArg (fun x => x.testBit j) h
  simp only [Nat.testBit_and, two_bit, Nat.zero_testBit] at h2
  exact ⟨by simpa using h2 a, by simpa using h2 b⟩
 ·
  rintro ⟨h1, h2⟩
  apply Nat.eq_of_testBit_eq
  intro j
  simp only [Nat.testBit_and, two_bit, Nat.zero_testBit]
  by_cases ha : j = a
  ·
   subst ha; simp [h1]
  ·
   by_cases hb : j = b
   ·
    subst hb; simp [h2]
   ·
    simp [ha, hb]
theorem and_two_all {m a b : Nat} : m &&& two a b = two a b ↔ m.testBit a = true ∧ m.testBit b = true := by
 constructor
 ·
  intro h
  have h2 := fun j => congrArg (fun x => x.testBit j) h
  simp only [Nat.testBit_and, two_bit] at h2
  exact ⟨by simpa using h2 a, by simpa using h2 b⟩
 ·
  rintro ⟨h1, h2⟩
  apply Nat.eq_of_testBit_eq
  intro j
  simp only [Nat.testBit_and, two_bit]
  by_cases ha : j = a
  ·
   subst ha; simp [h1]
  ·
   by_cases hb : j = b
   ·
    subst hb; simp [h2]
   ·
    simp [ha, hb]
def Sound (sw : List S69) (st a m : Nat) : Prop := m < 256 ∧ m.testBit a = true ∧ ∀ j, m.testBit j = true → Conn sw st a j
def Even (sw : List S69) (st m i : Nat) : Prop := ∀ j, ∀ h : j < sw.length, j < i → st.testBit j = true → m.testBit (sw[j].f0).toNat = m.testBit (sw[j].f1).toNat
theorem conn_of_even {sw : List S69} {st a m : Nat} (hs : Sound sw st a m) (he : Even sw st m sw.length) {j : Nat} (h : Conn sw st a j) : m.testBit j = true := by
 induction h with
 | refl => exact hs.2.1
 | step _ e ih =>
  obtain ⟨i, hi, hb, h | h⟩ := e
  ·
   have := he i hi hi hb
   rw [h.1, h.2, Int.toNat_natCast, Int.toNat_natCast] at this
   rw [← this]; exact ih
  ·
   have := he i hi hi hb
   rw [h.1, h.2, Int.toNat_natCast, Int.toNat_natCast] at this
   rw [this]; exact ih
theorem or_two_sound {sw : List S69} {st a m : Nat} (hs : Sound sw st a m) {i : Nat} (hi : i < sw.length) (hb : st.testBit i = true) {x y : Nat} (hx : sw[i].f0 = x) (hy : sw[i].f1 = y) (hx8 : x < 8) (hy8 : y < 8)
  (h : m.testBit x = true ∨ m.testBit y = true) : Sound sw st a (m ||| two x y) := by
 have hlt8 : m ||| two x y < 2 ^ 8 := Nat.or_lt_two_pow hs.1 (two_lt hx8 hy8)
 refine ⟨hlt8, by rw [Nat.testBit_or, hs.2.1]; rfl, fun j hj => ?_⟩
 rw [Nat.testBit_or, two_bit] at hj
 have e1 : Edge sw st x y := ⟨i, hi, hb, .inl ⟨hx, hy⟩⟩
 have e2 : Edge sw st y x := ⟨i, hi, hb, .inr ⟨hx, hy⟩⟩
 by_cases hm : m.testBit j = true
 ·
  exact hs.2.2 j hm
 ·
  have hm2 : m.testBit j = false := by simpa using hm
  rw [hm2, Bool.false_or] at hj
  have hj2 : j = x ∨ j = y := by simpa using hj
  rcases hj2 with rfl | rfl
  ·
   rcases h with h | h
   ·
    exact hs.2.2 _ h
   ·
    exact Conn.step (hs.2.2 _ h) e2
  ·
   rcases h with h | h
   ·
    exact Conn.step (hs.2.2 _ h) e1
   ·
    exact hs.2.2 _ h
theorem or_gt {m t : Nat} (h : m &&& t ≠ t) : m < m ||| t := by
 refine Nat.lt_of_le_of_ne Nat.left_le_or (fun e => h ?_)
 have : (m ||| t) &&& t = t := by
  apply Nat.eq_of_testBit_eq
  intro j
  rw [Nat.testBit_and, Nat.testBit_or]
  cases m.testBit j <;> cases t.testBit j <;> rfl
 rw [← e] at this
 exact this
def Group (sw : List S69) (st a m : Nat) : Prop := Sound sw st a m ∧ Even sw st m sw.length
theorem group_l1 (n : Int) (sw : List S69) (fe : List S71) (hsw : SwOk 8 sw) (hlen : sw.length ≤ 20) (st a : Nat) (hst : st < 2 ^ 20) (m0 : Nat)
  (IH : ∀ m, m0 < m → Sound sw st a m → ∃ r, Ev (fun k => feed_grid_group.l0 k (st : Int) (m : Int) true n sw fe) ((r : Nat) : Int) ∧ Group sw st a r) :
  ∀ (d i m : Nat) (b : Bool), i + d = sw.length → Sound sw st a m → (b = false → m = m0 ∧ Even sw st m0 i) → (b = true → m0 < m) →
  ∃ r, Ev (fun k => feed_grid_group.l1 k (st : Int) (m : Int) b sw (sw.length : Int) (i : Int) n sw fe) ((r : Nat) : Int) ∧ Group sw st a r := by
 intro d
 induction d with
 | zero =>
  intro i m b hi hs hf ht
  obtain rfl : i = sw.length := by omega
  cases b with
  | true =>
   obtain ⟨r, h1, h2⟩ := IH m (ht rfl) hs
   refine ⟨r, ?_, h2⟩
   refine Ev.step (fun k => by rw [feed_grid_group.l1]) ?_
   exact ev_neg (by omega) h1
  | false =>
   obtain ⟨rfl, he⟩ := hf rfl
   refine ⟨m, ?_, hs, he⟩
   refine Ev.step (fun k => by rw [feed_grid_group.l1]) (ev_neg (by omega) ?_)
   refine Ev.step (fun k => by rw [feed_grid_group.l0]) ?_
   exact ev_neg (by simp) (Ev.now _)
 | succ d ih =>
  intro i m b hi hs hf ht
  have hlt : i < sw.length := by omega
  have hm := hs.1
  obtain ⟨x0, x1, y0, y1, hxy⟩ := hsw sw[i] (List.getElem_mem hlt)
  obtain ⟨x, hx⟩ := Int.eq_ofNat_of_zero_le x0
  obtain ⟨y, hy⟩ := Int.eq_ofNat_of_zero_le y0
  have hx8 : x < 8 := by omega
  have hy8 : y < 8 := by omega
  have ht2 := two_lt hx8 hy8
  have start : ∀ r : Nat, Ev (fun k => if (Go.bits .and .i64 (shr .i64 (st : Int) (i : Int)) 1) = 0 then feed_grid_group.l1 k (st : Int) (m : Int) b sw (sw.length : Int) (wrap64 ((i : Int) + 1)) n sw fe else (if 0 ≤ ((rd_T69 sw (i : Int)).f0) then (if 0 ≤ ((rd_T69 sw (i : Int)).f1) then (if (Go.bits .and .u64 (m : Int) (Go.bits .or .u64 (shl .u64 1 ((rd_T69 sw (i : Int)).f0)) (shl .u64 1 ((rd_T69 sw (i : Int)).f1)))) = 0 then (feed_grid_group.l1 k (st : Int) (m : Int) b sw (sw.length : Int) (wrap64 ((i : Int) + 1)) n sw fe) else (if (Go.bits .and .u64 (m : Int) (Go.bits .or .u64 (shl .u64 1 ((rd_T69 sw (i : Int)).f0)) (shl .u64 1 ((rd_T69 sw (i : Int)).f1)))) = (Go.bits .or .u64 (shl .u64 1 ((rd_T69 sw (i : Int)).f0)) (shl .u64 1 ((rd_T69 sw (i : Int)).f1))) then (feed_grid_group.l1 k (st : Int) (m : Int) b sw (sw.length : Int) (wrap64 ((i : Int) + 1)) n sw fe) else (feed_grid_group.l1 k (st : Int) (Go.bits .or .u64 (m : Int) (Go.bits .or .u64 (shl .u64 1 ((rd_T69 sw (i : Int)).f0)) (shl .u64 1 ((rd_T69 sw (i : Int)).f1)))) true sw (sw.length : Int) (wrap64 ((i : Int) + 1)) n sw fe))) else (none)) else (none))) (r : Int) →
    Ev (fun k => feed_grid_group.l1 k (st : Int) (m : Int) b sw (sw.length : Int) (i : Int) n sw fe) (r : Int) := by
   intro r h
   refine Ev.step (fun k => by rw [feed_grid_group.l1]) ?_
   exact ev_pos (by omega) (ev_pos (by omega) (ev_pos (by omega) h))
  rw [rd_S69 sw i hlt, hx, hy] at start
  have e1 : shl .u64 1 ((x : Nat) : Int) = ((1 <<< x : Nat) : Int) := shl_u (x := 1) (by rw [Nat.one_mul]; exact Nat.lt_of_lt_of_le (Nat.pow_lt_pow_right (by decide) hx8) (by decide)) (by omega)
  have e2 : shl .u64 1 ((y : Nat) : Int) = ((1 <<< y : Nat) : Int) := shl_u (x := 1) (by rw [Nat.one_mul]; exact Nat.lt_of_lt_of_le (Nat.pow_lt_pow_right (by decide) hy8) (by decide)) (by omega)
  have s1 : 1 <<< x < 2 ^ 62 := by rw [Nat.one_shiftLeft]; exact Nat.lt_of_lt_of_le (Nat.pow_lt_pow_right (by decide) hx8) (by decide)
  have s2 : 1 <<< y < 2 ^ 62 := by rw [Nat.one_shiftLeft]; exact Nat.lt_of_lt_of_le (Nat.pow_lt_pow_right (by decide) hy8) (by decide)
  have e3 : Go.bits .or .u64 ((1 <<< x : Nat) : Int) ((1 <<< y : Nat) : Int) = ((two x y : Nat) : Int) := or_u s1 s2
  have e4 : Go.bits .and .u64 (m : Int) ((two x y : Nat) : Int) = ((m &&& two x y : Nat) : Int) := and_u (by omega) (by omega)
  have e5 : Go.bits .or .u64 (m : Int) ((two x y : Nat) : Int) = ((m ||| two x y : Nat) : Int) := or_u (by omega) (by omega)
  rw [e1, e2, e3, e4, e5, bit_i (by omega) (by omega), wrap_succ i (by omega)] at start
  have keep : ∀ (hE : st.testBit i = true → m.testBit x = m.testBit y), b = false → m = m0 ∧ Even sw st m0 (i + 1) := by
   intro hE hb
   obtain ⟨rfl, he⟩ := hf hb
   refine ⟨rfl, fun j hj hji hjb => ?_⟩
   by_cases h : j < i
   ·
    exact he j hj h hjb
   ·
    obtain rfl : j = i := by omega
    rw [hx, hy, Int.toNat_natCast, Int.toNat_natCast]
    exact hE hjb
  by_cases hbit : st.testBit i = true
  ·
   rw [if_pos hbit] at start
   by_cases hz : m &&& two x y = 0
   ·
    have hz2 := and_two_zero.1 hz
    obtain ⟨r, h1, h2⟩ := ih (i + 1) m b (by omega) hs (keep fun _ => by rw [hz2.1, hz2.2]) ht
    exact ⟨r, start r (ev_neg (by decide) (ev_pos (by omega) (ev_pos (by omega) (ev_pos (by omega) h1)))), h2⟩
   ·
    by_cases ha : m &&& two x y = two x y
    ·
     have ha2 := and_two_all.1 ha
     obtain ⟨r, h1, h2⟩ := ih (i + 1) m b (by omega) hs (keep fun _ => by rw [ha2.1, ha2.2]) ht
     exact ⟨r, start r (ev_neg (by decide) (ev_pos (by omega) (ev_pos (by omega) (ev_neg (by omega) (ev_pos (by omega) h1))))), h2⟩
    ·
     have hor : m.testBit x = true ∨ m.testBit y = true := by
      by_cases h1 : m.testBit x = true
      ·
       exact .inl h1
      ·
       by_cases h2 : m.testBit y = true
       ·
        exact .inr h2
       ·
        exact absurd (and_two_zero.2 ⟨by simpa using h1, by simpa using h2⟩) hz
     have hgt := or_gt ha
     have hm0 : m0 < m ||| two x y := by
      cases b with
      | true => have := ht rfl; omega
      | false => have := (hf rfl).1; omega
     obtain ⟨r, h1, h2⟩ := ih (i + 1) (m ||| two x y) true (by omega) (or_two_sound hs hlt hbit hx hy hx8 hy8 hor) (fun h => by cases h) (fun _ => hm0)
     exact ⟨r, start r (ev_neg (by decide) (ev_pos (by omega) (ev_pos (by omega) (ev_neg (by omega) (ev_neg (by omega) h1))))), h2⟩
  ·
   rw [if_neg hbit] at start
   obtain ⟨r, h1, h2⟩ := ih (i + 1) m b (by omega) hs (keep fun h => absurd h hbit) ht
   exact ⟨r, start r (ev_pos rfl h1), h2⟩
theorem group_l0 (n : Int) (sw : List S69) (fe : List S71) (hsw : SwOk 8 sw) (hlen : sw.length ≤ 20) (st a : Nat) (hst : st < 2 ^ 20) :
  ∀ (q m : Nat), 256 - m ≤ q → Sound sw st a m → ∃ r, Ev (fun k => feed_grid_group.l0 k (st : Int) (m : Int) true n sw fe) ((r : Nat) : Int) ∧ Group sw st a r := by
 intro q
 induction q with
 | zero => intro m hq hs; have := hs.1; omega
 | succ q ih =>
  intro m hq hs
  have hm := hs.1
  obtain ⟨r, h1, h2⟩ := group_l1 n sw fe hsw hlen st a hst m (fun m' hm' hs' => ih m' (by omega) hs') sw.length 0 m false (by omega) hs (fun _ => ⟨rfl, fun j hj hji => by omega⟩) (fun h => by cases h)
  refine ⟨r, ?_, h2⟩
  refine Ev.step (fun k => by rw [feed_grid_group.l0]) ?_
  exact ev_pos rfl h1
theorem group_ev (n : Int) (sw : List S69) (fe : List S71) (hsw : SwOk 8 sw) (hlen : sw.length ≤ 20) (st a : Nat) (hst : st < 2 ^ 20) (ha : a < 8) :
  ∃ r : Nat, Ev (fun k => feed_grid_group.f k n sw fe (st : Int) (a : Int)) ((r : Nat) : Int) ∧ r < 256 ∧ ∀ j, r.testBit j = true ↔ Conn sw st a j := by
 have e1 : shl .u64 1 ((a : Nat) : Int) = ((1 <<< a : Nat) : Int) := shl_u (x := 1) (by rw [Nat.one_mul]; exact Nat.lt_of_lt_of_le (Nat.pow_lt_pow_right (by decide) ha) (by decide)) (by omega)
 have hs : Sound sw st a (1 <<< a) := by
  refine ⟨by rw [Nat.one_shiftLeft]; exact Nat.lt_of_lt_of_le (Nat.pow_lt_pow_right (by decide) ha) (by decide), by rw [Nat.one_shiftLeft, Nat.testBit_two_pow]; simp, fun j hj => ?_⟩
  rw [Nat.one_shiftLeft, Nat.testBit_two_pow] at hj
  obtain rfl : a = j := by simpa using hj
  exact Conn.refl
 obtain ⟨r, h1, h2⟩ := group_l0 n sw fe hsw hlen st a hst 256 (1 <<< a) (Nat.sub_le _ _) hs
 refine ⟨r, ?_, h2.1.1, fun j => ⟨h2.1.2.2 j, fun h => conn_of_even h2.1 h2.2 h⟩⟩
 unfold feed_grid_group.f
 rw [e1]
 exact ev_pos (by omega) h1
end Go.Proofs.YtoilhnmdemnknaaDoor.Plain

/- With which phases the sections are fed, as the program reckons them. -/
namespace Go.Proofs.YtoilhnmdemnknaaDoor.Plain
set_option linter.unusedVariables false
set_option linter.unusedSimpArgs false
open Go.RowKit Go.Proofs.YtoilhnmdemnknaaDoor.XFeed Go.Proofs.YtoilhnmdemnknaaDoorW.PrintWords Go.Proofs.YtoilhnmdemnknaaDoorW.PrintLast Go.Proofs.YtoilhnmdemnknaaDoorW.PrintMore

def FeOk (n : Nat) (fe : List S71) : Prop := ∀ f ∈ fe, 0 ≤ f.f0 ∧ f.f0 < n ∧ 1 ≤ f.f1 ∧ f.f1 ≤ 3
def Mask (sw : List S69) (st : Nat) (fs : List S71) (i m : Nat) : Prop :=
 m < 16 ∧ ∀ p, m.testBit p = true ↔ ∃ f ∈ fs, f.f1 = (p : Int) ∧ Conn sw st f.f0.toNat i
theorem rd_S71 (xs : List S71) (i : Nat) (h : i < xs.length) : rd_T71 xs (i : Int) = xs[i] := by simp [rd_T71, List.getD_eq_getElem?_getD, h]
theorem rd_set (l : List Int) (i j : Nat) (v : Int) (hi : i < l.length) : rd (l.set i v) (j : Int) = if j = i then v else rd l (j : Int) := by
 simp only [rd, Int.toNat_natCast, List.getD_eq_getElem?_getD, List.getElem?_set]
 by_cases h : i = j
 ·
  subst h; simp [hi]
 ·
  rw [if_neg h, if_neg (fun e => h e.symm)]
theorem mask_no {sw : List S69} {st : Nat} {fs : List S71} {f : S71} {i m : Nat} (h : Mask sw st fs i m) (hn : ¬ Conn sw st f.f0.toNat i) : Mask sw st (fs ++ [f]) i m := by
 refine ⟨h.1, fun p => ?_⟩
 rw [h.2 p]
 constructor
 ·
  rintro ⟨x, hx, h1, h2⟩; exact ⟨x, List.mem_append_left _ hx, h1, h2⟩
 ·
  rintro ⟨x, hx, h1, h2⟩
  rcases List.mem_append.1 hx with hx | hx
  ·
   exact ⟨x, hx, h1, h2⟩
  ·
   obtain rfl : x = f := by simpa using hx
   exact absurd h2 hn
theorem mask_yes {sw : List S69} {st : Nat} {fs : List S71} {f : S71} {i m q : Nat} (h : Mask sw st fs i m) (hc : Conn sw st f.f0.toNat i) (hq : f.f1 = (q : Int)) (hq4 : q < 4) : Mask sw st (fs ++ [f]) i (m ||| 1 <<< q) := by
 have hlt : m ||| 1 <<< q < 2 ^ 4 := Nat.or_lt_two_pow h.1 (by rw [Nat.one_shiftLeft]; exact Nat.pow_lt_pow_right (by decide) hq4)
 refine ⟨hlt, fun p => ?_⟩
 rw [Nat.testBit_or, Bool.or_eq_true, h.2 p, Nat.one_shiftLeft, Nat.testBit_two_pow, decide_eq_true_eq]
 constructor
 ·
  rintro (⟨x, hx, h1, h2⟩ | rfl)
  ·
   exact ⟨x, List.mem_append_left _ hx, h1, h2⟩
  ·
   exact ⟨f, by simp, hq, hc⟩
 ·
  rintro ⟨x, hx, h1, h2⟩
  rcases List.mem_append.1 hx with hx | hx
  ·
   exact .inl ⟨x, hx, h1, h2⟩
  ·
   obtain rfl : x = f := by simpa using hx
   right; omega
def Fed (sw : List S69) (st n : Nat) (fs : List S71) (l : List Int) : Prop := l.length = n ∧ ∀ i, i < n → ∃ m, rd l (i : Int) = ((m : Nat) : Int) ∧ Mask sw st fs i m
theorem fed_l1 (n : Nat) (hn : n ≤ 8) (sw : List S69) (fe : List S71) (st : Nat) (f : S71) (hf : 1 ≤ f.f1 ∧ f.f1 ≤ 3) (fs : List S71) (q : Nat) (g : Nat) (hg : g < 256) (hgc : ∀ j, g.testBit j = true ↔ Conn sw st f.f0.toNat j)
  (hend : ∀ l', Fed sw st n (fs ++ [f]) l' → ∃ r, Ev (fun k => feed_grid_fed.l0 k (st : Int) l' fe (fe.length : Int) (wrap64 ((q : Int) + 1)) (n : Int) sw fe) r ∧ Fed sw st n fe r) :
  ∀ (d i : Nat) (l : List Int), i + d = n → l.length = n → (∀ j, j < n → ∃ m, rd l (j : Int) = ((m : Nat) : Int) ∧ Mask sw st (if j < i then fs ++ [f] else fs) j m) →
  ∃ r, Ev (fun k => feed_grid_fed.l1 k (st : Int) l (g : Int) fe (fe.length : Int) (q : Int) (n : Int) (i : Int) (n : Int) sw fe f.f0 f.f1) r ∧ Fed sw st n fe r := by
 intro d
 induction d with
 | zero =>
  intro i l hi hl hm
  obtain rfl : i = n := by omega
  obtain ⟨r, h1, h2⟩ := hend l ⟨hl, fun j hj => by
   obtain ⟨m, e, h⟩ := hm j hj
   rw [if_pos hj] at h
   exact ⟨m, e, h⟩⟩
  refine ⟨r, ?_, h2⟩
  refine Ev.step (fun k => by rw [feed_grid_fed.l1]) ?_
  exact ev_neg (by omega) h1
 | succ d ih =>
  intro i l hi hl hm
  obtain ⟨m, e, h⟩ := hm i (by omega)
  rw [if_neg (by omega)] at h
  have hm16 := h.1
  have hb := bit_u (x := g) (i := i) (by omega) (by omega)
  by_cases hc : g.testBit i = true
  ·
   have hcc := (hgc i).1 hc
   rw [if_pos hc] at hb
   obtain ⟨p, hp⟩ := Int.eq_ofNat_of_zero_le (show 0 ≤ f.f1 by omega)
   have s1 : 1 <<< p < 2 ^ 62 := by rw [Nat.one_shiftLeft]; exact Nat.lt_of_lt_of_le (Nat.pow_lt_pow_right (by decide) (show p < 4 by omega)) (by decide)
   have e1 : shl .u64 1 ((p : Nat) : Int) = ((1 <<< p : Nat) : Int) := shl_u (x := 1) (by rw [Nat.one_mul]; exact Nat.lt_of_lt_of_le (Nat.pow_lt_pow_right (by decide) (show p < 4 by omega)) (by decide)) (by omega)
   have e2 : Go.bits .or .u64 (m : Int) ((1 <<< p : Nat) : Int) = ((m ||| 1 <<< p : Nat) : Int) := or_u (by omega) s1
   obtain ⟨r, h1, h2⟩ := ih (i + 1) (l.set i ((m ||| 1 <<< p : Nat) : Int)) (by omega) (by rw [List.length_set]; exact hl) (fun j hj => by
    rw [rd_set _ _ _ _ (by omega)]
    by_cases hji : j = i
    ·
     subst hji
     rw [if_pos rfl, if_pos (by omega)]
     exact ⟨_, rfl, mask_yes h hcc hp (by omega)⟩
    ·
     rw [if_neg hji]
     obtain ⟨m', e', h'⟩ := hm j hj
     refine ⟨m', e', ?_⟩
     by_cases hlt : j < i
     ·
      rw [if_pos hlt] at h'; rw [if_pos (by omega)]; exact h'
     ·
      rw [if_neg hlt] at h'; rw [if_neg (by omega)]; exact h')
   refine ⟨r, ?_, h2⟩
   refine Ev.step (fun k => by rw [feed_grid_fed.l1]) ?_
   rw [hb, e, hp, e1, e2, wrap_succ i (by omega), Int.toNat_natCast]
   rw [hp] at h1
   exact ev_pos (by omega) (ev_pos (by omega) (ev_pos rfl (ev_pos (by omega) (ev_pos (by omega) h1))))
  ·
   rw [if_neg hc] at hb
   obtain ⟨r, h1, h2⟩ := ih (i + 1) l (by omega) hl (fun j hj => by
    obtain ⟨m', e', h'⟩ := hm j hj
    refine ⟨m', e', ?_⟩
    by_cases hji : j = i
    ·
     subst hji
     rw [if_neg (by omega)] at h'
     rw [if_pos (by omega)]
     exact mask_no h' (fun hx => hc ((hgc j).2 hx))
    ·
     by_cases hlt : j < i
     ·
      rw [if_pos hlt] at h'; rw [if_pos (by omega)]; exact h'
     ·
      rw [if_neg hlt] at h'; rw [if_neg (by omega)]; exact h')
   refine ⟨r, ?_, h2⟩
   refine Ev.step (fun k => by rw [feed_grid_fed.l1]) ?_
   rw [hb, wrap_succ i (by omega)]
   exact ev_pos (by omega) (ev_pos (by omega) (ev_neg (by decide) h1))
theorem fed_l0 (n : Nat) (hn : n ≤ 8) (sw : List S69) (hsw : SwOk 8 sw) (hlen : sw.length ≤ 20) (fe : List S71) (hfe : FeOk n fe) (hfl : fe.length ≤ 20) (st : Nat) (hst : st < 2 ^ 20) :
  ∀ (d q : Nat) (l : List Int), q + d = fe.length → Fed sw st n (fe.take q) l → ∃ r, Ev (fun k => feed_grid_fed.l0 k (st : Int) l fe (fe.length : Int) (q : Int) (n : Int) sw fe) r ∧ Fed sw st n fe r := by
 intro d
 induction d with
 | zero =>
  intro q l hq hl
  obtain rfl : q = fe.length := by omega
  rw [List.take_length] at hl
  refine ⟨l, ?_, hl⟩
  refine Ev.step (fun k => by rw [feed_grid_fed.l0]) ?_
  exact ev_neg (by omega) (Ev.now _)
 | succ d ih =>
  intro q l hq hl
  have hlt : q < fe.length := by omega
  obtain ⟨f0, f1, f2, f3⟩ := hfe fe[q] (List.getElem_mem hlt)
  have htk : fe.take (q + 1) = fe.take q ++ [fe[q]] := List.take_succ_eq_append_getElem hlt
  obtain ⟨g, hg1, hg2, hg3⟩ := group_ev (n : Int) sw fe hsw hlen st fe[q].f0.toNat hst (by omega)
  rw [Int.toNat_of_nonneg f0] at hg1
  obtain ⟨r, h1, h2⟩ := fed_l1 n hn sw fe st fe[q] ⟨f2, f3⟩ (fe.take q) q g hg2 hg3 (fun l' hl' => by
   rw [wrap_succ q (by omega)]
   rw [← htk] at hl'
   exact ih (q + 1) l' (by omega) hl') n 0 l (by omega) hl.1 (fun j hj => by rw [if_neg (by omega)]; exact hl.2 j hj)
  refine ⟨r, ?_, h2⟩
  refine Ev.step (fun k => by rw [feed_grid_fed.l0]) ?_
  rw [rd_S71 fe q hlt]
  refine ev_pos (by omega) (ev_pos (by omega) (ev_pos (by omega) (Ev.bind hg1 ?_)))
  rw [hl.1]
  exact h1
theorem fed_ev (n : Nat) (hn : n ≤ 8) (sw : List S69) (hsw : SwOk 8 sw) (hlen : sw.length ≤ 20) (fe : List S71) (hfe : FeOk n fe) (hfl : fe.length ≤ 20) (st : Nat) (hst : st < 2 ^ 20) :
  ∃ r, Ev (fun k => feed_grid_fed.f k (n : Int) sw fe (st : Int)) r ∧ Fed sw st n fe r := by
 obtain ⟨r, h1, h2⟩ := fed_l0 n hn sw hsw hlen fe hfe hfl st hst fe.length 0 (List.replicate n 0) (by omega) ⟨List.length_replicate, fun i hi => ⟨0, by simp [rd, hi], by decide, fun p => by simp⟩⟩
 refine ⟨r, ?_, h2⟩
 unfold feed_grid_fed.f
 rw [Int.toNat_natCast]
 exact ev_pos (by omega) (ev_pos (by omega) h1)
end Go.Proofs.YtoilhnmdemnknaaDoor.Plain

/- Which grids are as described: program and document say the same. -/
namespace Go.Proofs.YtoilhnmdemnknaaDoor.Plain
set_option linter.unusedVariables false
set_option linter.unusedSimpArgs false
open Go.RowKit Go.Proofs.YtoilhnmdemnknaaDoor.XFeed Go.Proofs.YtoilhnmdemnknaaDoorW.PrintWords Go.Proofs.YtoilhnmdemnknaaDoorW.PrintLast Go.Proofs.YtoilhnmdemnknaaDoorW.PrintMore

def SwIs (N : Int) (s : S69) : Prop := 0 ≤ s.f0 ∧ s.f0 < N ∧ 0 ≤ s.f1 ∧ s.f1 < N ∧ s.f0 ≠ s.f1
def FeIs (N : Int) (f : S71) : Prop := 0 ≤ f.f0 ∧ f.f0 < N ∧ 1 ≤ f.f1 ∧ f.f1 ≤ 3
def GridOk (N : Int) (sw : List S69) (fe : List S71) : Prop :=
 1 ≤ N ∧ N ≤ 8 ∧ sw.length ≤ 10 ∧ fe.length ≤ 6 ∧ (∀ s ∈ sw, SwIs N s) ∧ ∀ f ∈ fe, FeIs N f
theorem bad1_iff {N : Int} (h1 : 1 ≤ N) (h2 : N ≤ 8) (s : S69) : feed_Valid.bad1 N s = true ↔ ¬ SwIs N s := by
 unfold feed_Valid.bad1 SwIs
 rw [wrap_id (x := N - 1) (by omega) (by omega)]
 simp only [Bool.or_eq_true, Bool.not_eq_true', Bool.and_eq_false_iff, decide_eq_false_iff_not, beq_iff_eq]
 omega
theorem bad2_iff {N : Int} (h1 : 1 ≤ N) (h2 : N ≤ 8) (f : S71) : feed_Valid.bad2 N f = true ↔ ¬ FeIs N f := by
 unfold feed_Valid.bad2 FeIs
 rw [wrap_id (x := N - 1) (by omega) (by omega)]
 simp only [Bool.or_eq_true, Bool.not_eq_true', Bool.and_eq_false_iff, decide_eq_false_iff_not]
 omega
open Classical in
theorem valid_f (N : Int) (sw : List S69) (fe : List S71) : feed_Valid.f N sw fe = some (decide (GridOk N sw fe)) := by
 unfold feed_Valid.f
 congr 1
 rw [Bool.eq_iff_iff, decide_eq_true_eq]
 simp only [Bool.and_eq_true, decide_eq_true_eq, Bool.not_eq_true', List.any_eq_false]
 unfold GridOk
 constructor
 ·
  rintro ⟨⟨h1, h2⟩, h3, h4, h5, h6⟩
  refine ⟨h1, h2, by omega, by omega, fun s hs => ?_, fun f hf => ?_⟩
  ·
   have := h5 s hs
   rw [bad1_iff h1 h2] at this
   exact Classical.not_not.1 this
  ·
   have := h6 f hf
   rw [bad2_iff h1 h2] at this
   exact Classical.not_not.1 this
 ·
  rintro ⟨h1, h2, h3, h4, h5, h6⟩
  refine ⟨⟨h1, h2⟩, by omega, by omega, fun s hs => ?_, fun f hf => ?_⟩
  ·
   rw [bad1_iff h1 h2]; exact fun h => h (h5 s hs)
  ·
   rw [bad2_iff h1 h2]; exact fun h => h (h6 f hf)
theorem section_f (N : Int) (sw : List S69) (fe : List S71) (x : Int) : dropperref05_section.f N sw fe x = some (decide (0 ≤ x ∧ x < N)) := by
 unfold dropperref05_section.f
 by_cases h : x ≥ 0
 ·
  rw [if_pos h]; congr 1; rw [decide_eq_decide]; omega
 ·
  rw [if_neg h]; congr 1; symm; rw [decide_eq_false_iff_not]; omega
open Classical in
theorem rvalid_l1 (N : Int) (sw : List S69) (fe : List S71) (hl : fe.length ≤ 6) : ∀ (d i : Nat), i + d = fe.length → (∀ j (h : j < fe.length), j < i → FeIs N fe[j]) →
  Ev (fun k => dropperref05_Valid.l1 k (i : Int) N sw fe) (decide (∀ f ∈ fe, FeIs N f)) := by
 intro d
 induction d with
 | zero =>
  intro i hi hb
  refine Ev.step (fun k => by rw [dropperref05_Valid.l1]) ?_
  refine ev_neg (by omega) (ev_const ?_)
  rw [decide_eq_true]
  intro f hf
  obtain ⟨j, hj, rfl⟩ := List.mem_iff_getElem.1 hf
  exact hb j hj (by omega)
 | succ d ih =>
  intro i hi hb
  have hlt : i < fe.length := by omega
  have no : ¬ FeIs N fe[i] → (false : Bool) = decide (∀ f ∈ fe, FeIs N f) := fun h => by
   symm; rw [decide_eq_false_iff_not]; exact fun h2 => h (h2 _ (List.getElem_mem hlt))
  refine Ev.step (fun k => by rw [dropperref05_Valid.l1]) ?_
  rw [rd_S71 fe i hlt, section_f, wrap_succ i (by omega)]
  refine ev_pos (by omega) (ev_pos (by omega) (ev_some ?_))
  by_cases h0 : 0 ≤ fe[i].f0 ∧ fe[i].f0 < N
  ·
   refine ev_pos (decide_eq_true h0) ?_
   by_cases h1 : fe[i].f1 < 1
   ·
    exact ev_pos h1 (ev_const (congrArg some (no (fun h => by unfold FeIs at h; omega))))
   refine ev_neg h1 ?_
   by_cases h2 : fe[i].f1 > 3
   ·
    exact ev_pos h2 (ev_const (congrArg some (no (fun h => by unfold FeIs at h; omega))))
   refine ev_neg h2 (ih (i + 1) (by omega) (fun j hj hji => ?_))
   by_cases h : j < i
   ·
    exact hb j hj h
   ·
    obtain rfl : j = i := by omega
    unfold FeIs; omega
  ·
   exact ev_neg (by simpa using h0) (ev_const (congrArg some (no (fun h => h0 ⟨h.1, h.2.1⟩))))
open Classical in
theorem rvalid_l0 (N : Int) (sw : List S69) (fe : List S71) (hl : fe.length ≤ 6) (hs : sw.length ≤ 10) : ∀ (d i : Nat), i + d = sw.length → (∀ j (h : j < sw.length), j < i → SwIs N sw[j]) →
  Ev (fun k => dropperref05_Valid.l0 k (i : Int) N sw fe) (decide ((∀ s ∈ sw, SwIs N s) ∧ ∀ f ∈ fe, FeIs N f)) := by
 intro d
 induction d with
 | zero =>
  intro i hi hb
  have hall : ∀ s ∈ sw, SwIs N s := by
   intro f hf
   obtain ⟨j, hj, rfl⟩ := List.mem_iff_getElem.1 hf
   exact hb j hj (by omega)
  have e : decide ((∀ s ∈ sw, SwIs N s) ∧ ∀ f ∈ fe, FeIs N f) = decide (∀ f ∈ fe, FeIs N f) := by
   rw [decide_eq_decide]; exact ⟨fun h => h.2, fun h => ⟨hall, h⟩⟩
  rw [e]
  refine Ev.step (fun k => by rw [dropperref05_Valid.l0]) ?_
  exact ev_neg (by omega) (rvalid_l1 N sw fe hl fe.length 0 (by omega) (fun j h hj => by omega))
 | succ d ih =>
  intro i hi hb
  have hlt : i < sw.length := by omega
  have no : ¬ SwIs N sw[i] → (false : Bool) = decide ((∀ s ∈ sw, SwIs N s) ∧ ∀ f ∈ fe, FeIs N f) := fun h => by
   symm; rw [decide_eq_false_iff_not]; exact fun h2 => h (h2.1 _ (List.getElem_mem hlt))
  refine Ev.step (fun k => by rw [dropperref05_Valid.l0]) ?_
  rw [rd_S69 sw i hlt, section_f, section_f, wrap_succ i (by omega)]
  refine ev_pos (by omega) (ev_pos (by omega) (ev_some ?_))
  by_cases h0 : 0 ≤ sw[i].f0 ∧ sw[i].f0 < N
  ·
   refine ev_pos (decide_eq_true h0) (ev_some ?_)
   by_cases h1 : 0 ≤ sw[i].f1 ∧ sw[i].f1 < N
   ·
    refine ev_pos (decide_eq_true h1) ?_
    by_cases h2 : sw[i].f0 = sw[i].f1
    ·
     exact ev_pos h2 (ev_const (congrArg some (no (fun h => h.2.2.2.2 h2))))
    refine ev_neg h2 (ih (i + 1) (by omega) (fun j hj hji => ?_))
    by_cases h : j < i
    ·
     exact hb j hj h
    ·
     obtain rfl : j = i := by omega
     exact ⟨h0.1, h0.2, h1.1, h1.2, h2⟩
   ·
    exact ev_neg (by simpa using h1) (ev_const (congrArg some (no (fun h => h1 ⟨h.2.2.1, h.2.2.2.1⟩))))
  ·
   exact ev_neg (by simpa using h0) (ev_const (congrArg some (no (fun h => h0 ⟨h.1, h.2.1⟩))))
open Classical in
theorem rvalid_ev (N : Int) (sw : List S69) (fe : List S71) : Ev (fun k => dropperref05_Valid.f k N sw fe) (decide (GridOk N sw fe)) := by
 have no : ¬ GridOk N sw fe → Ev (fun k => dropperref05_Valid.j0 k true N sw fe) (decide (GridOk N sw fe)) := fun h => by
  rw [decide_eq_false h]
  refine Ev.step (fun k => by rw [dropperref05_Valid.j0]) ?_
  exact ev_pos rfl (Ev.now _)
 unfold dropperref05_Valid.f
 by_cases h1 : N < 1
 ·
  exact ev_pos h1 (no (fun h => by have := h.1; omega))
 refine ev_neg h1 ?_
 by_cases h2 : N > 8
 ·
  exact ev_pos h2 (no (fun h => by have := h.2.1; omega))
 refine ev_neg h2 ?_
 by_cases h3 : (sw.length : Int) > 10
 ·
  exact ev_pos h3 (no (fun h => by have := h.2.2.1; omega))
 refine ev_neg h3 ?_
 by_cases h4 : (fe.length : Int) > 6
 ·
  rw [decide_eq_true h4]
  exact no (fun h => by have := h.2.2.2.1; omega)
 rw [decide_eq_false h4]
 refine Ev.step (fun k => by rw [dropperref05_Valid.j0]) (ev_neg (by simp) ?_)
 have e : decide (GridOk N sw fe) = decide ((∀ s ∈ sw, SwIs N s) ∧ ∀ f ∈ fe, FeIs N f) := by
  rw [decide_eq_decide]
  exact ⟨fun h => h.2.2.2.2, fun h => ⟨by omega, by omega, by omega, by omega, h⟩⟩
 rw [e]
 exact rvalid_l0 N sw fe (by omega) (by omega) sw.length 0 (by omega) (fun j h hj => by omega)
end Go.Proofs.YtoilhnmdemnknaaDoor.Plain

/- What is live, and which states are right, as the program reckons them. -/
namespace Go.Proofs.YtoilhnmdemnknaaDoor.Plain
set_option linter.unusedVariables false
set_option linter.unusedSimpArgs false
open Go.RowKit Go.Proofs.YtoilhnmdemnknaaDoor.XFeed Go.Proofs.YtoilhnmdemnknaaDoorW.PrintWords Go.Proofs.YtoilhnmdemnknaaDoorW.PrintLast Go.Proofs.YtoilhnmdemnknaaDoorW.PrintMore

def cn (m : Nat) : Nat := ((List.range 4).filter m.testBit).length
def lv (m : Nat) : Int := if cn m = 0 then 0 else if cn m = 1 then (if m = 1 then 0 else if m = 2 then 1 else if m = 4 then 2 else 3) else -1
theorem ones16 : ∀ m : Nat, m < 16 → bits_OnesCount.f (m : Int) = some (cn m : Int) := by decide +kernel
theorem tz16 : ∀ m : Nat, m < 16 → cn m = 1 → bits_TrailingZeros.f (m : Int) = some (lv m) := by decide +kernel
def Mark (sw : List S69) (st n : Nat) (fe : List S71) (l : List Int) : Prop := l.length = n ∧ ∀ i, i < n → ∃ m, rd l (i : Int) = lv m ∧ Mask sw st fe i m
theorem live_l0 (n : Nat) (hn : n ≤ 8) (sw : List S69) (fe : List S71) (st : Nat) (t : List Int) (ht : Fed sw st n fe t) :
  ∀ (d i : Nat) (acc : List Int), i + d = n → acc.length = i → (∀ j, j < i → ∃ m, rd acc (j : Int) = lv m ∧ Mask sw st fe j m) →
  ∃ r, Ev (fun k => feed_grid_live.l0 k acc t (t.length : Int) (i : Int)) r ∧ Mark sw st n fe r := by
 intro d
 induction d with
 | zero =>
  intro i acc hi ha hm
  obtain rfl : i = n := by omega
  have := ht.1
  refine ⟨acc, ?_, ha, hm⟩
  refine Ev.step (fun k => by rw [feed_grid_live.l0]) ?_
  exact ev_neg (by omega) (Ev.now _)
 | succ d ih =>
  intro i acc hi ha hm
  have hl := ht.1
  obtain ⟨m, e, hM⟩ := ht.2 i (by omega)
  have hm16 := hM.1
  have next : ∃ r, Ev (fun k => feed_grid_live.l0 k (acc ++ [lv m]) t (t.length : Int) ((i + 1 : Nat) : Int)) r ∧ Mark sw st n fe r := by
   refine ih (i + 1) (acc ++ [lv m]) (by omega) (by simp [ha]) (fun j hj => ?_)
   by_cases h : j < i
   ·
    obtain ⟨m', e', h'⟩ := hm j h
    refine ⟨m', ?_, h'⟩
    rw [← e']
    simp [rd, List.getD_eq_getElem?_getD, List.getElem?_append_left (show j < acc.length by omega)]
   ·
    obtain rfl : j = i := by omega
    refine ⟨m, ?_, hM⟩
    simp [rd, List.getD_eq_getElem?_getD, ← ha]
  obtain ⟨r, h1, h2⟩ := next
  refine ⟨r, ?_, h2⟩
  refine Ev.step (fun k => by rw [feed_grid_live.l0]) ?_
  rw [e, ones16 m hm16, wrap_succ i (by omega)]
  refine ev_pos (by omega) (ev_pos (by omega) (ev_pos (by omega) (ev_some ?_)))
  by_cases c0 : cn m = 0
  ·
   have e0 : lv m = 0 := by unfold lv; rw [if_pos c0]
   rw [e0] at h1
   exact ev_pos (by omega) (ev_pos (by omega) h1)
  ·
   refine ev_neg (by omega) ?_
   by_cases c1 : cn m = 1
   ·
    rw [tz16 m hm16 c1]
    exact ev_pos (by omega) (ev_some (ev_pos (by omega) h1))
   ·
    have e1 : lv m = -1 := by unfold lv; rw [if_neg c0, if_neg c1]
    rw [e1] at h1
    exact ev_neg (by omega) (ev_pos (by omega) h1)
theorem live_ev (n : Nat) (hn : n ≤ 8) (sw : List S69) (hsw : SwOk 8 sw) (hlen : sw.length ≤ 20) (fe : List S71) (hfe : FeOk n fe) (hfl : fe.length ≤ 20) (st : Nat) (hst : st < 2 ^ 20) :
  ∃ r, Ev (fun k => feed_grid_live.f k (n : Int) sw fe (st : Int)) r ∧ Mark sw st n fe r := by
 obtain ⟨t, h1, h2⟩ := fed_ev n hn sw hsw hlen fe hfe hfl st hst
 obtain ⟨r, h3, h4⟩ := live_l0 n hn sw fe st t h2 n 0 [] (by omega) rfl (fun j hj => by omega)
 refine ⟨r, ?_, h4⟩
 unfold feed_grid_live.f
 exact Ev.bind h1 h3
theorem index_l0 (l : List Int) (hl : l.length ≤ 100) (v : Int) : ∀ (d i : Nat), i + d = l.length → (∀ j (h : j < l.length), j < i → l[j] ≠ v) →
  ∃ r : Int, Ev (fun k => slices_Index_int_int.l0 k l v (l.length : Int) (i : Int)) r ∧ (0 ≤ r ↔ v ∈ l) := by
 intro d
 induction d with
 | zero =>
  intro i hi hb
  refine ⟨-1, ?_, ?_⟩
  ·
   refine Ev.step (fun k => by rw [slices_Index_int_int.l0]) ?_
   exact ev_neg (by omega) (Ev.now _)
  ·
   constructor
   ·
    intro h; omega
   ·
    intro h
    obtain ⟨j, hj, e⟩ := List.mem_iff_getElem.1 h
    exact absurd e (hb j hj (by omega))
 | succ d ih =>
  intro i hi hb
  have hlt : i < l.length := by omega
  have hr : rd l (i : Int) = l[i] := by simp [rd, List.getD_eq_getElem?_getD, hlt]
  by_cases he : v = l[i]
  ·
   refine ⟨i, ?_, ?_⟩
   ·
    refine Ev.step (fun k => by rw [slices_Index_int_int.l0]) ?_
    rw [hr]
    exact ev_pos (by omega) (ev_pos (by omega) (ev_pos (by omega) (ev_pos he (Ev.now _))))
   ·
    exact ⟨fun _ => he ▸ List.getElem_mem hlt, fun _ => by omega⟩
  ·
   obtain ⟨r, h1, h2⟩ := ih (i + 1) (by omega) (fun j hj hji => by
    by_cases h : j < i
    ·
     exact hb j hj h
    ·
     obtain rfl : j = i := by omega
     exact fun e => he e.symm)
   refine ⟨r, ?_, h2⟩
   refine Ev.step (fun k => by rw [slices_Index_int_int.l0]) ?_
   rw [hr, wrap_succ i (by omega)]
   exact ev_pos (by omega) (ev_pos (by omega) (ev_pos (by omega) (ev_neg he h1)))
theorem contains_ev (l : List Int) (hl : l.length ≤ 100) (v : Int) : Ev (fun k => slices_Contains_int_int.f k l v) (decide (v ∈ l)) := by
 obtain ⟨r, h1, h2⟩ := index_l0 l hl v l.length 0 (by omega) (fun j h hj => by omega)
 unfold slices_Contains_int_int.f slices_Index_int_int.f
 refine Ev.bind h1 (ev_const ?_)
 congr 1
 rw [decide_eq_decide]
 exact h2
theorem mask_unique {sw : List S69} {st : Nat} {fe : List S71} {i m m' : Nat} (h : Mask sw st fe i m) (h' : Mask sw st fe i m') : m = m' := by
 apply Nat.eq_of_testBit_eq
 intro p
 rw [Bool.eq_iff_iff, h.2, h'.2]
end Go.Proofs.YtoilhnmdemnknaaDoor.Plain

/- Live, Right, States of a grid as described. -/
namespace Go.Proofs.YtoilhnmdemnknaaDoor.Plain
set_option linter.unusedVariables false
set_option linter.unusedSimpArgs false
open Go.RowKit Go.Proofs.YtoilhnmdemnknaaDoor.XFeed Go.Proofs.YtoilhnmdemnknaaDoorW.PrintWords Go.Proofs.YtoilhnmdemnknaaDoorW.PrintLast Go.Proofs.YtoilhnmdemnknaaDoorW.PrintMore

theorem GridOk.sw8 {n : Nat} {sw : List S69} {fe : List S71} (h : GridOk (n : Int) sw fe) : SwOk 8 sw := fun s hs => by
 have := h.2.2.2.2.1 s hs
 have := h.2.1
 unfold SwIs at *
 omega
theorem GridOk.fe {n : Nat} {sw : List S69} {fe : List S71} (h : GridOk (n : Int) sw fe) : FeOk n fe := fun f hf => h.2.2.2.2.2 f hf
theorem all_f (N : Int) (sw : List S69) (fe : List S71) (h : sw.length ≤ 10) : feed_grid_all.f N sw fe = some ((2 ^ sw.length : Nat) : Int) := by
 unfold feed_grid_all.f
 have hp : 2 ^ sw.length ≤ 2 ^ 10 := Nat.pow_le_pow_right (by decide) h
 rw [show (1 : Int) = ((1 : Nat) : Int) from rfl, shl_i (by omega) (by omega), Nat.one_shiftLeft]
theorem within_f (a b c : Int) : feed_within.f a b c = some (decide (a ≤ b ∧ b ≤ c)) := by
 unfold feed_within.f
 by_cases h : a ≤ b
 ·
  rw [if_pos h]; congr 1; rw [decide_eq_decide]; omega
 ·
  rw [if_neg h]; congr 1; symm; rw [decide_eq_false_iff_not]; omega
end Go.Proofs.YtoilhnmdemnknaaDoor.Plain

/- One more closed switch never takes anything away. -/
namespace Go.Proofs.YtoilhnmdemnknaaDoor.Plain
set_option linter.unusedVariables false
set_option linter.unusedSimpArgs false
open Go.RowKit Go.Proofs.YtoilhnmdemnknaaDoor.XFeed Go.Proofs.YtoilhnmdemnknaaDoorW.PrintWords Go.Proofs.YtoilhnmdemnknaaDoorW.PrintLast Go.Proofs.YtoilhnmdemnknaaDoorW.PrintMore

theorem mask_zero {sw : List S69} {st n : Nat} {fe : List S71} (hfe : FeOk n fe) {i m : Nat} (h : Mask sw st fe i m) : m.testBit 0 = false := by
 rw [Bool.eq_false_iff]
 intro hb
 obtain ⟨f, hf, e, _⟩ := (h.2 0).1 hb
 have := hfe f hf
 omega
end Go.Proofs.YtoilhnmdemnknaaDoor.Plain
