-- Written by wip/pack.py of this repo: texts of this claim, put together.
import Derived.Test.YtoilhnmdemnknaaDoorKFeedReache
namespace Go.Proofs.YtoilhnmdemnknaaDoor.XFeed
open Go.RowKit Go.Proofs.YtoilhnmdemnknaaDoorW.PrintWords Go.Proofs.YtoilhnmdemnknaaDoorW.PrintLast Go.Proofs.YtoilhnmdemnknaaDoorW.PrintMore
attribute [local go_sem] max2_int min2_int max_two min_two max_three min_three max_four min_four   -- for this text's walks alone
set_option linter.unusedVariables false
set_option linter.unusedSimpArgs false
/-! ### dropperref05_steps: function 77 -/
mutual
def dropperref05_steps.l0 : Nat → Int → List Bool → List Int → Int → Int → List (S69) → List (S71) → Option (List Int)
 | 0, _, _, _, _, _, _, _ => none
 | k + 1, x1, x7, x8, x9, x570000, x570001, x570002 => if x9 < (x8.length : Int) then (if 0 ≤ x9 then (dropperref05_steps.l0 k x1 x7 (x8.set (x9 : Int).toNat (-1)) (wrap64 (x9 + 1)) x570000 x570001 x570002) else (none)) else (if 0 ≤ x1 then (if x1 < (x7.length : Int) then (if rdOf false x7 x1 = true then (if x1 < (x8.length : Int) then (dropperref05_steps.l1 k x7 (x8.set (x1 : Int).toNat 0) (([x1] : List Int)) 0 x570000 x570001 x570002) else (none)) else (some x8)) else (none)) else (none))
def dropperref05_steps.l1 : Nat → List Bool → List Int → List Int → Int → Int → List (S69) → List (S71) → Option (List Int)
 | 0, _, _, _, _, _, _, _ => none
 | k + 1, x7, x8, x10, x11, x570000, x570001, x570002 => if x11 < (x10.length : Int) then (dropperref05_steps.l2 k x7 x8 x10 x11 0 x570000 x570001 x570002) else (some x8)
def dropperref05_steps.l2 : Nat → List Bool → List Int → List Int → Int → Int → Int → List (S69) → List (S71) → Option (List Int)
 | 0, _, _, _, _, _, _, _, _ => none
 | k + 1, x7, x8, x10, x11, x12, x570000, x570001, x570002 => if x12 < (x570001.length : Int) then (if 0 ≤ x11 then (if x11 < (x10.length : Int) then (if 0 ≤ x12 then (if 0 ≤ (Go.bits .xor .i64 (rd x10 x11) (shl .i64 1 x12)) then (if (Go.bits .xor .i64 (rd x10 x11) (shl .i64 1 x12)) < (x7.length : Int) then (if rdOf false x7 (Go.bits .xor .i64 (rd x10 x11) (shl .i64 1 x12)) = true then (if (Go.bits .xor .i64 (rd x10 x11) (shl .i64 1 x12)) < (x8.length : Int) then (if (rd x8 (Go.bits .xor .i64 (rd x10 x11) (shl .i64 1 x12))) < 0 then (if 0 ≤ (rd x10 x11) then (if (rd x10 x11) < (x8.length : Int) then (if x10.length < 17592186044416 then (dropperref05_steps.l2 k x7 (x8.set ((Go.bits .xor .i64 (rd x10 x11) (shl .i64 1 x12)) : Int).toNat (wrap64 ((rd x8 (rd x10 x11)) + 1))) (x10 ++ [Go.bits .xor .i64 (rd x10 x11) (shl .i64 1 x12)]) x11 (wrap64 (x12 + 1)) x570000 x570001 x570002) else (none)) else (none)) else (none)) else (dropperref05_steps.l2 k x7 x8 x10 x11 (wrap64 (x12 + 1)) x570000 x570001 x570002)) else (none)) else (dropperref05_steps.l2 k x7 x8 x10 x11 (wrap64 (x12 + 1)) x570000 x570001 x570002)) else (none)) else (none)) else (none)) else (none)) else (none)) else (dropperref05_steps.l1 k x7 x8 x10 (wrap64 (x11 + 1)) x570000 x570001 x570002)
end
def dropperref05_steps.f (k : Nat) (a0_0 : Int) (l0_1 : List (S69)) (l0_2 : List (S71)) (a1 : Int) (l2 : List Int) : Option (List Int) := (dropperref05_good.f k a0_0 l0_1 l0_2 l2).bind fun t570 => (if 0 ≤ (t570.length : Int) then (if ((t570.length : Int) : Int).toNat ≤ 35184372088832 then (dropperref05_steps.l0 k a1 t570 (List.replicate ((t570.length : Int) : Int).toNat 0) 0 a0_0 l0_1 l0_2) else (none)) else (none))
theorem dropperref05_steps.mono_l : ∀ k, (∀ y0 y1 y2 y3 y4 y5 y6, LeO (dropperref05_steps.l0 k y0 y1 y2 y3 y4 y5 y6) (dropperref05_steps.l0 (k + 1) y0 y1 y2 y3 y4 y5 y6)) ∧ (∀ y0 y1 y2 y3 y4 y5 y6, LeO (dropperref05_steps.l1 k y0 y1 y2 y3 y4 y5 y6) (dropperref05_steps.l1 (k + 1) y0 y1 y2 y3 y4 y5 y6)) ∧ (∀ y0 y1 y2 y3 y4 y5 y6 y7, LeO (dropperref05_steps.l2 k y0 y1 y2 y3 y4 y5 y6 y7) (dropperref05_steps.l2 (k + 1) y0 y1 y2 y3 y4 y5 y6 y7))
 | 0 => ⟨fun _ _ _ _ _ _ _ r h => by simp [dropperref05_steps.l0] at h, fun _ _ _ _ _ _ _ r h => by simp [dropperref05_steps.l1] at h, fun _ _ _ _ _ _ _ _ r h => by simp [dropperref05_steps.l2] at h⟩
 | k + 1 => by
  obtain ⟨ih0, ih1, ih2⟩ := dropperref05_steps.mono_l k
  refine ⟨?_, ?_, ?_⟩
  ·
   intro y0 y1 y2 y3 y4 y5 y6
   unfold dropperref05_steps.l0
   repeat' first
   | (with_reducible exact ih0 _ _ _ _ _ _ _)
   | (with_reducible exact ih1 _ _ _ _ _ _ _)
   | (with_reducible exact ih2 _ _ _ _ _ _ _ _)
   | (with_reducible exact dropperref05_good.mono _ _ _ _ _)
   | (with_reducible exact LeO.refl _)
   | (with_reducible exact LeO.none _)
   | (with_reducible refine LeO.ite ?_ ?_)
   | (with_reducible refine LeO.bind ?_ (fun _ => ?_))
   | exact ih0 _ _ _ _ _ _ _
   | exact ih1 _ _ _ _ _ _ _
   | exact ih2 _ _ _ _ _ _ _ _
   | exact dropperref05_good.mono _ _ _ _ _
   | exact LeO.none _
   | refine LeO.ite ?_ ?_
   | refine LeO.bind ?_ (fun _ => ?_)
  ·
   intro y0 y1 y2 y3 y4 y5 y6
   unfold dropperref05_steps.l1
   repeat' first
   | (with_reducible exact ih0 _ _ _ _ _ _ _)
   | (with_reducible exact ih1 _ _ _ _ _ _ _)
   | (with_reducible exact ih2 _ _ _ _ _ _ _ _)
   | (with_reducible exact dropperref05_good.mono _ _ _ _ _)
   | (with_reducible exact LeO.refl _)
   | (with_reducible exact LeO.none _)
   | (with_reducible refine LeO.ite ?_ ?_)
   | (with_reducible refine LeO.bind ?_ (fun _ => ?_))
   | exact ih0 _ _ _ _ _ _ _
   | exact ih1 _ _ _ _ _ _ _
   | exact ih2 _ _ _ _ _ _ _ _
   | exact dropperref05_good.mono _ _ _ _ _
   | exact LeO.none _
   | refine LeO.ite ?_ ?_
   | refine LeO.bind ?_ (fun _ => ?_)
  ·
   intro y0 y1 y2 y3 y4 y5 y6 y7
   unfold dropperref05_steps.l2
   repeat' first
   | (with_reducible exact ih0 _ _ _ _ _ _ _)
   | (with_reducible exact ih1 _ _ _ _ _ _ _)
   | (with_reducible exact ih2 _ _ _ _ _ _ _ _)
   | (with_reducible exact dropperref05_good.mono _ _ _ _ _)
   | (with_reducible exact LeO.refl _)
   | (with_reducible exact LeO.none _)
   | (with_reducible refine LeO.ite ?_ ?_)
   | (with_reducible refine LeO.bind ?_ (fun _ => ?_))
   | exact ih0 _ _ _ _ _ _ _
   | exact ih1 _ _ _ _ _ _ _
   | exact ih2 _ _ _ _ _ _ _ _
   | exact dropperref05_good.mono _ _ _ _ _
   | exact LeO.none _
   | refine LeO.ite ?_ ?_
   | refine LeO.bind ?_ (fun _ => ?_)
theorem dropperref05_steps.mono : ∀ a0 a1 a2 a3 a4 k, LeO (dropperref05_steps.f k a0 a1 a2 a3 a4) (dropperref05_steps.f (k + 1) a0 a1 a2 a3 a4) := by
 intro a0 a1 a2 a3 a4 k
 obtain ⟨ih0, ih1, ih2⟩ := dropperref05_steps.mono_l k
 unfold dropperref05_steps.f
 repeat' first
   | (with_reducible exact ih0 _ _ _ _ _ _ _)
   | (with_reducible exact ih1 _ _ _ _ _ _ _)
   | (with_reducible exact ih2 _ _ _ _ _ _ _ _)
   | (with_reducible exact dropperref05_good.mono _ _ _ _ _)
   | (with_reducible exact LeO.refl _)
   | (with_reducible exact LeO.none _)
   | (with_reducible refine LeO.ite ?_ ?_)
   | (with_reducible refine LeO.bind ?_ (fun _ => ?_))
   | exact ih0 _ _ _ _ _ _ _
   | exact ih1 _ _ _ _ _ _ _
   | exact ih2 _ _ _ _ _ _ _ _
   | exact dropperref05_good.mono _ _ _ _ _
   | exact LeO.none _
   | refine LeO.ite ?_ ?_
   | refine LeO.bind ?_ (fun _ => ?_)
set_option maxHeartbeats 8000000 in
set_option maxRecDepth 100000 in
theorem dropperref05_steps.calls (k : Nat) (a0_0 : Int) (A0_1 : Option Addr) (c0_1 : Nat) (l0_1 : List (S69)) (A0_2 : Option Addr) (c0_2 : Nat) (l0_2 : List (S71)) (a1 : Int) (A2 : Option Addr) (c2 : Nat) (l2 : List Int) (r : List Int) (w : World) (hr0_1 : Kd.C k69 w A0_1 l0_1.length l0_1) (hc0_1 : l0_1.length ≤ c0_1) (hr0_2 : Kd.C k71 w A0_2 l0_2.length l0_2) (hc0_2 : l0_2.length ≤ c0_2) (hr2 : Kd.C (Kd.int .i64) w A2 l2.length l2) (hc2 : l2.length ≤ c2) (h : dropperref05_steps.f k a0_0 l0_1 l0_2 a1 l2 = some r) :
  Calls Tryd.prog 77 #[.agg #[.int .i64 a0_0, .slice A0_1 l0_1.length c0_1, .slice A0_2 l0_2.length c0_2], .int .i64 a1, .slice A2 l2.length c2] w fun e w' => ∃ v0_ : Value, e = .returned (v0_) ∧ Kd.R (Kd.int .i64) 3 w' w.heap.size (fun _ => True) v0_ r ∧ Below w.heap.size w w' := by
 have hu25 := Tryd.underlying25
 have HR0_1 := Aside0.mk hr0_1
 have HC0_1 := Aside0.mk hc0_1
 clear hr0_1 hc0_1
 have HR0_2 := Aside0.mk hr0_2
 have HC0_2 := Aside0.mk hc0_2
 clear hr0_2 hc0_2
 have HR2 := Aside0.mk hr2
 have HC2 := Aside0.mk hc2
 clear hr2 hc2
 have HB := Aside0.mk (Below.refl w.heap.size w)
 have H : ((dropperref05_good.f k a0_0 l0_1 l0_2 l2).bind fun t570 => (if 0 ≤ (t570.length : Int) then (if ((t570.length : Int) : Int).toNat ≤ 35184372088832 then (dropperref05_steps.l0 k a1 t570 (List.replicate ((t570.length : Int) : Int).toNat 0) 0 a0_0 l0_1 l0_2) else (none)) else (none))) = some r := h
 clear h
 replace H := Option.bind_eq_some_iff.mp H
 obtain ⟨t570, A40, H⟩ := H
 replace H : (if 0 ≤ (t570.length : Int) then (if ((t570.length : Int) : Int).toNat ≤ 35184372088832 then (dropperref05_steps.l0 k a1 t570 (List.replicate ((t570.length : Int) : Int).toNat 0) 0 a0_0 l0_1 l0_2) else (none)) else (none)) = some r := H
 have A4 := Aside0.mk A40
 clear A40
 by_cases c5 : 0 ≤ (t570.length : Int)
 ·
  rw [if_pos c5] at H
  have c5b0 := eq_true c5
  have c5b1 : decide (0 ≤ (t570.length : Int)) = true := decide_eq_true c5
  clear c5
  by_cases c6 : ((t570.length : Int) : Int).toNat ≤ 35184372088832
  ·
   rw [if_pos c6] at H
   have c6b0 := eq_true c6
   have c6b1 : decide (((t570.length : Int) : Int).toNat ≤ 35184372088832) = true := decide_eq_true c6
   clear c6
   obtain ⟨y573, hy573⟩ : ∃ y_ : List Int, y_ = (List.replicate ((t570.length : Int) : Int).toNat 0) := ⟨_, rfl⟩
   replace H : (dropperref05_steps.l0 k a1 t570 y573 0 a0_0 l0_1 l0_2) = some r := by first | (rw [hy573]; with_reducible exact H) | (have H2_ := (Option.bind_some _ _).symm.trans H; rw [hy573]; with_reducible exact H2_) | (have H2_ := (Option.bind_some _ _).symm.trans H; with_reducible exact H2_) | with_reducible exact H | (rw [hy573]; exact H) | exact H
   have Ny573 := Aside0.mk hy573
   clear hy573
   have H' := Aside0.mk H
   clear H
   go_enter Tryd.func77, Tryd.ntmps77
   go_wp2_with (first | ((with_reducible refine gate_dst (N := 3) rfl ?_); refine box_event ?hg (N := 3) ?hd (cs := #[.int .i64 a0_0, .slice A0_1 l0_1.length c0_1, .slice A0_2 l0_2.length c0_2]) (t := 25) ?hr ?_; (case hd => rfl); (case hg => rfl); (case hr => first | (go_simp; done) | (go_simp; rfl)); intro gb569 hg w7 hbox hb; have BK569 := Aside0.mk (hbox); have GW569 := bsz (w := w) hg; have GE569 := GW569; replace HB := Aside0.mk (below_step bel hb); clear hb hbox hg; have hcz8_0 := blkc BK569.out 0 (.int .i64 a0_0) rfl; have hcz8_1 := blkc BK569.out 1 (.slice A0_1 l0_1.length c0_1) rfl; have hcz8_2 := blkc BK569.out 2 (.slice A0_2 l0_2.length c0_2) rfl) | (go_at_call 98; (with_reducible refine (dropperref05_good.calls k a0_0 _ _ l0_1 _ _ l0_2 _ _ l2 t570 _ ?side1 ?side2 ?side3 ?side4 ?side5 ?side6 A4.out).mono ?_); (case side1 => exact cbz HR0_1); (case side2 => exact HC0_1.out); (case side3 => exact cbz HR0_2); (case side4 => exact HC0_2.out); (case side5 => exact cbz HR2); (case side6 => exact HC2.out); rintro e w9 ⟨v571, rfl, ho0, hb⟩; have HO572 := Aside0.mk (Kd.R_lower ho0 (below_size bel)); replace BK569 := Aside0.mk (blk_below (g := gb569) blkz hb); replace HB := Aside0.mk (below_step bel hb); (try clear hb); (try clear hb2); (try clear hk); (try clear hi); (try clear ho0); obtain ⟨Ao10, co10, eo10⟩ := Kd.R_slice HO572.out; subst eo10) | ((with_reducible refine gate_dst (N := 19) rfl ?_); refine Kd.R_make (Kd.int .i64) _ 3 rfl (N := 19) rfl 28 _ _ rfl (t570.length : Int) rfl rfl Tryd.underlying28 (.int .i64 0) 8 info3 rfl (by decide) (by omega) 0 (ok := fun _ => True) (okp := fun _ => True) rfl (fun _ hk => hk) trivial (of_decide_eq_true asz) (Nat.le_trans (Nat.mul_le_mul_right _ (of_decide_eq_true asz : (t570.length : Int).toNat ≤ 35184372088832)) (by omega)) (Below.refl _ _) (Nat.le_refl _) ?_; intro v574 w11 ho12 hb hg_ hnew_; clear hg_ hnew_; (first | rw [← Ny573.out] at ho12 | (simp only [Int.reduceToNat] at ho12; rw [← Ny573.out] at ho12)); have HO575 := Aside0.mk (Kd.R_lower ho12 (below_size bel)); replace HO572 := Aside0.mk (Kd.R_below (ownx HO572) hb); replace BK569 := Aside0.mk (blk_below (g := gb569) blkz hb); replace HB := Aside0.mk (below_step bel hb); clear hb ho12))
   repeat (go_quiet (first | ((with_reducible refine gate_dst (N := 3) rfl ?_); refine box_event ?hg (N := 3) ?hd (cs := #[.int .i64 a0_0, .slice A0_1 l0_1.length c0_1, .slice A0_2 l0_2.length c0_2]) (t := 25) ?hr ?_; (case hd => rfl); (case hg => rfl); (case hr => first | (go_simp; done) | (go_simp; rfl)); intro gb569 hg w7 hbox hb; have BK569 := Aside0.mk (hbox); have GW569 := bsz (w := w) hg; have GE569 := GW569; replace HB := Aside0.mk (below_step bel hb); clear hb hbox hg; have hcz8_0 := blkc BK569.out 0 (.int .i64 a0_0) rfl; have hcz8_1 := blkc BK569.out 1 (.slice A0_1 l0_1.length c0_1) rfl; have hcz8_2 := blkc BK569.out 2 (.slice A0_2 l0_2.length c0_2) rfl) | (go_at_call 98; (with_reducible refine (dropperref05_good.calls k a0_0 _ _ l0_1 _ _ l0_2 _ _ l2 t570 _ ?side1 ?side2 ?side3 ?side4 ?side5 ?side6 A4.out).mono ?_); (case side1 => exact cbz HR0_1); (case side2 => exact HC0_1.out); (case side3 => exact cbz HR0_2); (case side4 => exact HC0_2.out); (case side5 => exact cbz HR2); (case side6 => exact HC2.out); rintro e w9 ⟨v571, rfl, ho0, hb⟩; have HO572 := Aside0.mk (Kd.R_lower ho0 (below_size bel)); replace BK569 := Aside0.mk (blk_below (g := gb569) blkz hb); replace HB := Aside0.mk (below_step bel hb); (try clear hb); (try clear hb2); (try clear hk); (try clear hi); (try clear ho0); obtain ⟨Ao10, co10, eo10⟩ := Kd.R_slice HO572.out; subst eo10) | ((with_reducible refine gate_dst (N := 19) rfl ?_); refine Kd.R_make (Kd.int .i64) _ 3 rfl (N := 19) rfl 28 _ _ rfl (t570.length : Int) rfl rfl Tryd.underlying28 (.int .i64 0) 8 info3 rfl (by decide) (by omega) 0 (ok := fun _ => True) (okp := fun _ => True) rfl (fun _ hk => hk) trivial (of_decide_eq_true asz) (Nat.le_trans (Nat.mul_le_mul_right _ (of_decide_eq_true asz : (t570.length : Int).toNat ≤ 35184372088832)) (by omega)) (Below.refl _ _) (Nat.le_refl _) ?_; intro v574 w11 ho12 hb hg_ hnew_; clear hg_ hnew_; (first | rw [← Ny573.out] at ho12 | (simp only [Int.reduceToNat] at ho12; rw [← Ny573.out] at ho12)); have HO575 := Aside0.mk (Kd.R_lower ho12 (below_size bel)); replace HO572 := Aside0.mk (Kd.R_below (ownx HO572) hb); replace BK569 := Aside0.mk (blk_below (g := gb569) blkz hb); replace HB := Aside0.mk (below_step bel hb); clear hb ho12)); try go_wp2_with (first | ((with_reducible refine gate_dst (N := 3) rfl ?_); refine box_event ?hg (N := 3) ?hd (cs := #[.int .i64 a0_0, .slice A0_1 l0_1.length c0_1, .slice A0_2 l0_2.length c0_2]) (t := 25) ?hr ?_; (case hd => rfl); (case hg => rfl); (case hr => first | (go_simp; done) | (go_simp; rfl)); intro gb569 hg w7 hbox hb; have BK569 := Aside0.mk (hbox); have GW569 := bsz (w := w) hg; have GE569 := GW569; replace HB := Aside0.mk (below_step bel hb); clear hb hbox hg; have hcz8_0 := blkc BK569.out 0 (.int .i64 a0_0) rfl; have hcz8_1 := blkc BK569.out 1 (.slice A0_1 l0_1.length c0_1) rfl; have hcz8_2 := blkc BK569.out 2 (.slice A0_2 l0_2.length c0_2) rfl) | (go_at_call 98; (with_reducible refine (dropperref05_good.calls k a0_0 _ _ l0_1 _ _ l0_2 _ _ l2 t570 _ ?side1 ?side2 ?side3 ?side4 ?side5 ?side6 A4.out).mono ?_); (case side1 => exact cbz HR0_1); (case side2 => exact HC0_1.out); (case side3 => exact cbz HR0_2); (case side4 => exact HC0_2.out); (case side5 => exact cbz HR2); (case side6 => exact HC2.out); rintro e w9 ⟨v571, rfl, ho0, hb⟩; have HO572 := Aside0.mk (Kd.R_lower ho0 (below_size bel)); replace BK569 := Aside0.mk (blk_below (g := gb569) blkz hb); replace HB := Aside0.mk (below_step bel hb); (try clear hb); (try clear hb2); (try clear hk); (try clear hi); (try clear ho0); obtain ⟨Ao10, co10, eo10⟩ := Kd.R_slice HO572.out; subst eo10) | ((with_reducible refine gate_dst (N := 19) rfl ?_); refine Kd.R_make (Kd.int .i64) _ 3 rfl (N := 19) rfl 28 _ _ rfl (t570.length : Int) rfl rfl Tryd.underlying28 (.int .i64 0) 8 info3 rfl (by decide) (by omega) 0 (ok := fun _ => True) (okp := fun _ => True) rfl (fun _ hk => hk) trivial (of_decide_eq_true asz) (Nat.le_trans (Nat.mul_le_mul_right _ (of_decide_eq_true asz : (t570.length : Int).toNat ≤ 35184372088832)) (by omega)) (Below.refl _ _) (Nat.le_refl _) ?_; intro v574 w11 ho12 hb hg_ hnew_; clear hg_ hnew_; (first | rw [← Ny573.out] at ho12 | (simp only [Int.reduceToNat] at ho12; rw [← Ny573.out] at ho12)); have HO575 := Aside0.mk (Kd.R_lower ho12 (below_size bel)); replace HO572 := Aside0.mk (Kd.R_below (ownx HO572) hb); replace BK569 := Aside0.mk (blk_below (g := gb569) blkz hb); replace HB := Aside0.mk (below_step bel hb); clear hb ho12)))
   go_loopg [9] k (fun kq v9 w' => ∃ (x8_1 : List Int) (x9_1 : Int), v9 = .int .i64 x9_1 ∧ Aside0 (dropperref05_steps.l0 kq a1 t570 x8_1 x9_1 a0_0 l0_1 l0_2 = some r) ∧ Aside0 (kq ≤ k) ∧ Aside0 (Kd.R Kd.bool 4 w' w.heap.size (fun _ => True) (.slice Ao10 t570.length co10) t570) ∧ Aside0 (Kd.R (Kd.int .i64) 3 w' w.heap.size (fun _ => True) v574 x8_1) ∧ Aside0 (w'.heap[gb569]? = some (.cells #[.int .i64 a0_0, (.slice A0_1 l0_1.length c0_1), (.slice A0_2 l0_2.length c0_2)] 25 (0, 0))) ∧ Aside0 (Below w.heap.size w w'))
   case atStart => exact ⟨(y573), (0), rsz, H', ⟨Nat.le_refl _⟩, ⟨by (with_reducible repeat (first | apply Kd.R_alloc | apply Kd.R_drewN | apply Kd.R_drew)); exact HO572.out⟩, ⟨by (with_reducible repeat (first | apply Kd.R_alloc | apply Kd.R_drewN | apply Kd.R_drew)); exact HO575.out⟩, ⟨blkz⟩, ⟨bel⟩⟩
   case round =>
    clear H'
    try clear c2
    try clear p2
    try clear c5
    try clear c5b0
    try clear c5b1
    try clear c6
    try clear c6b0
    try clear c6b1
    try clear c7
    try clear hcz8_0
    try clear hcz8_1
    try clear hcz8_2
    try clear hfz8_0
    try clear hfz8_1
    try clear hfz8_2
    obtain ⟨x8_1, x9_1, rfl, HA, HK1, HO_7, HO_8, BK569, HB⟩ := hrel
    cases gk with
    | zero => exact absurd HA.out (by simp [dropperref05_steps.l0])
    | succ k1 =>
     have H := HA.out
     clear HA
     simp only [dropperref05_steps.l0] at H
     by_cases c13 : x9_1 < (x8_1.length : Int)
     ·
      rw [if_pos c13] at H
      have c13b0 : decide (x9_1 < (x8_1.length : Int)) = true := decide_eq_true c13
      clear c13
      by_cases c14 : 0 ≤ x9_1
      ·
       rw [if_pos c14] at H
       have c14b0 : decide (0 ≤ x9_1) = true := decide_eq_true c14
       clear c14
       obtain ⟨y576, hy576⟩ : ∃ y_ : List Int, y_ = (x8_1.set (x9_1 : Int).toNat (-1)) := ⟨_, rfl⟩
       replace H : (dropperref05_steps.l0 k1 a1 t570 y576 (wrap64 (x9_1 + 1)) a0_0 l0_1 l0_2) = some r := by first | (rw [hy576]; with_reducible exact H) | (have H2_ := (Option.bind_some _ _).symm.trans H; rw [hy576]; with_reducible exact H2_) | (have H2_ := (Option.bind_some _ _).symm.trans H; with_reducible exact H2_) | with_reducible exact H | (rw [hy576]; exact H) | exact H
       have Ny576 := Aside0.mk hy576
       clear hy576
       have H' := Aside0.mk H
       clear H
       obtain ⟨Ao16, co16, eo16⟩ := Kd.R_slice HO_8.out
       subst eo16
       have p15 : 0 ≤ (x9_1 : Int) := of_decide_eq_true asz
       have q15 : (x9_1 : Int) < ((x8_1.length : Int) : Int) := of_decide_eq_true asz
       obtain ⟨go15, co15, eo15, gb15, gl15, cl15, HG15⟩ := Kd.R_form HO_8.out (by omega)
       (first | cases eo15 | (injection eo15 with ea_ en_ ec_; (first | subst ea_ | (injection ea_ with ea_; subst ea_)); subst ec_; clear en_))
       have GB15 := Aside0.mk gb15
       have GG15 := Aside0.mk HG15
       clear gb15 gl15 HG15
       obtain ⟨hx15_0, hf15_0⟩ := Kd.R_celln 0 HO_8.out (x9_1 : Int) p15 q15
       replace p15 := eq_true p15
       replace q15 := eq_true q15
       have HP17 := Kd.R_putg HO_8.out (x9_1 : Int) (-1)
       go_wp2_with (first | ((with_reducible refine gate_store (t := 3) (p := 28) rfl ?_); (try (rw [drewN_self wr]; generalize hq_ : World.drewN wr _ = wr; have n0_ := Aside0.mk (Kd.R_at hq_ HO_7.out); have n1_ := Aside0.mk (Kd.R_at hq_ HO_8.out); have n2_ := Aside0.mk (blk_at hq_ BK569.out); have n3_ := Aside0.mk (below_at hq_ HB.out); clear hq_ HO_7 HO_8 BK569 HB; have HO_7 := n0_; have HO_8 := n1_; have BK569 := n2_; have HB := n3_; clear n0_ n1_ n2_ n3_; (try (have HP17 := Kd.R_putg HO_8.out (x9_1 : Int) (-1))))); refine store_event (t := 3) (p := 28) (v := ?vo_w18) (w1 := (wr.setCell ⟨go15, (x9_1 : Int).toNat, none⟩ (.int .i64 (-1)))) ?hg ?ho ?hn ?hr ?_; (case ho => rfl); (case hg => rfl); (case hn => rfl); (case hr => first | (go_simp; done) | (go_simp; rfl)); intro w18 hw; have hg : wr.grownBy w18 (some go15) := (by rw [hw]; exact HP17.2); have hp_ : Kd.R (Kd.int .i64) 3 w18 w.heap.size (fun _ => True) (.slice (some ⟨go15, 0, none⟩) x8_1.length co16) y576 := (by rw [hw, Ny576.out]; exact HP17.1); clear HP17; replace HO_7 := Aside0.mk (Kd.R_over' (v := (.slice (some ⟨go15, 0, none⟩) x8_1.length co16)) (ownx HO_7) (Kd.R_typed HO_8.out) (by decide) hg); replace BK569 := Aside0.mk (blk_grown (g := gb569) (o := .cells #[.int .i64 a0_0, .slice A0_1 l0_1.length c0_1, .slice A0_2 l0_2.length c0_2] 25 (0, 0)) blkz hg (Kd.R_ne HO_8.out BK569.out (by decide))); replace HO_8 := Aside0.mk (hp_); replace HB := Aside0.mk ((by rw [hw]; exact below_set (HB.out) GB15.out : Below w.heap.size w w18)); clear hg hw hp_))
       repeat (go_quiet (first | ((with_reducible refine gate_store (t := 3) (p := 28) rfl ?_); (try (rw [drewN_self wr]; generalize hq_ : World.drewN wr _ = wr; have n0_ := Aside0.mk (Kd.R_at hq_ HO_7.out); have n1_ := Aside0.mk (Kd.R_at hq_ HO_8.out); have n2_ := Aside0.mk (blk_at hq_ BK569.out); have n3_ := Aside0.mk (below_at hq_ HB.out); clear hq_ HO_7 HO_8 BK569 HB; have HO_7 := n0_; have HO_8 := n1_; have BK569 := n2_; have HB := n3_; clear n0_ n1_ n2_ n3_; (try (have HP17 := Kd.R_putg HO_8.out (x9_1 : Int) (-1))))); refine store_event (t := 3) (p := 28) (v := ?vo_w18) (w1 := (wr.setCell ⟨go15, (x9_1 : Int).toNat, none⟩ (.int .i64 (-1)))) ?hg ?ho ?hn ?hr ?_; (case ho => rfl); (case hg => rfl); (case hn => rfl); (case hr => first | (go_simp; done) | (go_simp; rfl)); intro w18 hw; have hg : wr.grownBy w18 (some go15) := (by rw [hw]; exact HP17.2); have hp_ : Kd.R (Kd.int .i64) 3 w18 w.heap.size (fun _ => True) (.slice (some ⟨go15, 0, none⟩) x8_1.length co16) y576 := (by rw [hw, Ny576.out]; exact HP17.1); clear HP17; replace HO_7 := Aside0.mk (Kd.R_over' (v := (.slice (some ⟨go15, 0, none⟩) x8_1.length co16)) (ownx HO_7) (Kd.R_typed HO_8.out) (by decide) hg); replace BK569 := Aside0.mk (blk_grown (g := gb569) (o := .cells #[.int .i64 a0_0, .slice A0_1 l0_1.length c0_1, .slice A0_2 l0_2.length c0_2] 25 (0, 0)) blkz hg (Kd.R_ne HO_8.out BK569.out (by decide))); replace HO_8 := Aside0.mk (hp_); replace HB := Aside0.mk ((by rw [hw]; exact below_set (HB.out) GB15.out : Below w.heap.size w w18)); clear hg hw hp_)); try go_wp2_with (first | ((with_reducible refine gate_store (t := 3) (p := 28) rfl ?_); (try (rw [drewN_self wr]; generalize hq_ : World.drewN wr _ = wr; have n0_ := Aside0.mk (Kd.R_at hq_ HO_7.out); have n1_ := Aside0.mk (Kd.R_at hq_ HO_8.out); have n2_ := Aside0.mk (blk_at hq_ BK569.out); have n3_ := Aside0.mk (below_at hq_ HB.out); clear hq_ HO_7 HO_8 BK569 HB; have HO_7 := n0_; have HO_8 := n1_; have BK569 := n2_; have HB := n3_; clear n0_ n1_ n2_ n3_; (try (have HP17 := Kd.R_putg HO_8.out (x9_1 : Int) (-1))))); refine store_event (t := 3) (p := 28) (v := ?vo_w18) (w1 := (wr.setCell ⟨go15, (x9_1 : Int).toNat, none⟩ (.int .i64 (-1)))) ?hg ?ho ?hn ?hr ?_; (case ho => rfl); (case hg => rfl); (case hn => rfl); (case hr => first | (go_simp; done) | (go_simp; rfl)); intro w18 hw; have hg : wr.grownBy w18 (some go15) := (by rw [hw]; exact HP17.2); have hp_ : Kd.R (Kd.int .i64) 3 w18 w.heap.size (fun _ => True) (.slice (some ⟨go15, 0, none⟩) x8_1.length co16) y576 := (by rw [hw, Ny576.out]; exact HP17.1); clear HP17; replace HO_7 := Aside0.mk (Kd.R_over' (v := (.slice (some ⟨go15, 0, none⟩) x8_1.length co16)) (ownx HO_7) (Kd.R_typed HO_8.out) (by decide) hg); replace BK569 := Aside0.mk (blk_grown (g := gb569) (o := .cells #[.int .i64 a0_0, .slice A0_1 l0_1.length c0_1, .slice A0_2 l0_2.length c0_2] 25 (0, 0)) blkz hg (Kd.R_ne HO_8.out BK569.out (by decide))); replace HO_8 := Aside0.mk (hp_); replace HB := Aside0.mk ((by rw [hw]; exact below_set (HB.out) GB15.out : Below w.heap.size w w18)); clear hg hw hp_)))
       go_roundg k1
       case measure => have := HK1.out; omega
       case rel => exact ⟨(y576), (wrap64 (x9_1 + 1)), rsz, H', ⟨by have := HK1.out; omega⟩, ⟨by (with_reducible repeat (first | apply Kd.R_alloc | apply Kd.R_drewN | apply Kd.R_drew)); exact HO_7.out⟩, ⟨by (with_reducible repeat (first | apply Kd.R_alloc | apply Kd.R_drewN | apply Kd.R_drew)); exact HO_8.out⟩, ⟨blkz⟩, ⟨bel⟩⟩
      ·
       rw [if_neg c14] at H
       exact absurd H (by simp)
     ·
      rw [if_neg c13] at H
      have c13b0 : decide (x9_1 < (x8_1.length : Int)) = false := decide_eq_false c13
      clear c13
      by_cases c19 : 0 ≤ a1
      ·
       rw [if_pos c19] at H
       have c19b0 : decide (0 ≤ a1) = true := decide_eq_true c19
       clear c19
       by_cases c20 : a1 < (t570.length : Int)
       ·
        rw [if_pos c20] at H
        have c20b0 : decide (a1 < (t570.length : Int)) = true := decide_eq_true c20
        clear c20
        obtain ⟨bq21, hbq21⟩ : ∃ b_ : Bool, b_ = (rdOf false t570 a1) := ⟨_, rfl⟩
        replace H : (if bq21 = true then (if a1 < (x8_1.length : Int) then (dropperref05_steps.l1 k1 t570 (x8_1.set (a1 : Int).toNat 0) (([a1] : List Int)) 0 a0_0 l0_1 l0_2) else (none)) else (some x8_1)) = some r := by rw [← hbq21] at H; exact H
        have Nbq21 := Aside0.mk hbq21
        clear hbq21
        by_cases c22 : bq21 = true
        ·
         subst c22
         have H1 : (if a1 < (x8_1.length : Int) then (dropperref05_steps.l1 k1 t570 (x8_1.set (a1 : Int).toNat 0) (([a1] : List Int)) 0 a0_0 l0_1 l0_2) else (none)) = some r := by rw [if_pos rfl] at H; exact H
         clear H
         have H := H1
         clear H1
         by_cases c23 : a1 < (x8_1.length : Int)
         ·
          rw [if_pos c23] at H
          have c23b0 : decide (a1 < (x8_1.length : Int)) = true := decide_eq_true c23
          clear c23
          obtain ⟨y578, hy578⟩ : ∃ y_ : List Int, y_ = (x8_1.set (a1 : Int).toNat 0) := ⟨_, rfl⟩
          replace H : (dropperref05_steps.l1 k1 t570 y578 (([a1] : List Int)) 0 a0_0 l0_1 l0_2) = some r := by first | (rw [hy578]; with_reducible exact H) | (have H2_ := (Option.bind_some _ _).symm.trans H; rw [hy578]; with_reducible exact H2_) | (have H2_ := (Option.bind_some _ _).symm.trans H; with_reducible exact H2_) | with_reducible exact H | (rw [hy578]; exact H) | exact H
          have Ny578 := Aside0.mk hy578
          clear hy578
          obtain ⟨y579, hy579⟩ : ∃ y_ : List Int, y_ = (([a1] : List Int)) := ⟨_, rfl⟩
          replace H : (dropperref05_steps.l1 k1 t570 y578 y579 0 a0_0 l0_1 l0_2) = some r := by first | (rw [hy579]; with_reducible exact H) | (have H2_ := (Option.bind_some _ _).symm.trans H; rw [hy579]; with_reducible exact H2_) | (have H2_ := (Option.bind_some _ _).symm.trans H; with_reducible exact H2_) | with_reducible exact H | (rw [hy579]; exact H) | exact H
          have Ny579 := Aside0.mk hy579
          clear hy579
          have H' := Aside0.mk H
          clear H
          obtain ⟨Ao25, co25, eo25⟩ := Kd.R_slice HO_8.out
          subst eo25
          have p577 : 0 ≤ (a1 : Int) := of_decide_eq_true asz
          have q577 : a1 < (t570.length : Int) := of_decide_eq_true asz
          obtain ⟨ad577, e577, hx577_0⟩ := Kd.at_bool (Kd.R_reads' HO_7.out).2.2 a1 p577 q577
          (try rw [← Nbq21.out] at hx577_0)
          cases e577
          replace p577 := eq_true p577
          replace q577 := eq_true q577
          have p24 : 0 ≤ (a1 : Int) := of_decide_eq_true asz
          have q24 : (a1 : Int) < ((x8_1.length : Int) : Int) := of_decide_eq_true asz
          obtain ⟨go24, co24, eo24, gb24, gl24, cl24, HG24⟩ := Kd.R_form HO_8.out (by omega)
          (first | cases eo24 | (injection eo24 with ea_ en_ ec_; (first | subst ea_ | (injection ea_ with ea_; subst ea_)); subst ec_; clear en_))
          have GB24 := Aside0.mk gb24
          have GG24 := Aside0.mk HG24
          clear gb24 gl24 HG24
          obtain ⟨hx24_0, hf24_0⟩ := Kd.R_celln 0 HO_8.out (a1 : Int) p24 q24
          replace p24 := eq_true p24
          replace q24 := eq_true q24
          have HP26 := Kd.R_putg HO_8.out (a1 : Int) 0
          go_wp2_with (first | ((with_reducible refine gate_store (t := 3) (p := 37) rfl ?_); (try (rw [drewN_self wr]; generalize hq_ : World.drewN wr _ = wr; have n0_ := Aside0.mk (Kd.R_at hq_ HO_7.out); have n1_ := Aside0.mk (Kd.R_at hq_ HO_8.out); have n2_ := Aside0.mk (blk_at hq_ BK569.out); have n3_ := Aside0.mk (below_at hq_ HB.out); clear hq_ HO_7 HO_8 BK569 HB; have HO_7 := n0_; have HO_8 := n1_; have BK569 := n2_; have HB := n3_; clear n0_ n1_ n2_ n3_; (try (have HP26 := Kd.R_putg HO_8.out (a1 : Int) 0)))); refine store_event (t := 3) (p := 37) (v := ?vo_w27) (w1 := (wr.setCell ⟨go24, (a1 : Int).toNat, none⟩ (.int .i64 0))) ?hg ?ho ?hn ?hr ?_; (case ho => rfl); (case hg => rfl); (case hn => rfl); (case hr => first | (go_simp; done) | (go_simp; rfl)); intro w27 hw; have hg : wr.grownBy w27 (some go24) := (by rw [hw]; exact HP26.2); have hp_ : Kd.R (Kd.int .i64) 3 w27 w.heap.size (fun _ => True) (.slice (some ⟨go24, 0, none⟩) x8_1.length co25) y578 := (by rw [hw, Ny578.out]; exact HP26.1); clear HP26; replace HO_7 := Aside0.mk (Kd.R_over' (v := (.slice (some ⟨go24, 0, none⟩) x8_1.length co25)) (ownx HO_7) (Kd.R_typed HO_8.out) (by decide) hg); replace BK569 := Aside0.mk (blk_grown (g := gb569) (o := .cells #[.int .i64 a0_0, .slice A0_1 l0_1.length c0_1, .slice A0_2 l0_2.length c0_2] 25 (0, 0)) blkz hg (Kd.R_ne HO_8.out BK569.out (by decide))); replace HO_8 := Aside0.mk (hp_); replace HB := Aside0.mk ((by rw [hw]; exact below_set (HB.out) GB24.out : Below w.heap.size w w27)); clear hg hw hp_) | ((with_reducible refine gate_dst (N := 39) rfl ?_); refine Kd.R_lit (Kd.int .i64) _ 3 ?hg (N := 39) ?hd (xs := ([a1] : List Int)) (inner := [.int .i64 a1]) (ok := fun _ => True) (okp := fun _ => True) ?hr ?hp (fun _ hk => hk) trivial (Below.refl _ _) (Nat.le_refl _) (by simp) ?_; (case hd => rfl); (case hg => rfl); (case hr => first | (go_simp; done) | (go_simp; rfl)); (case hp => exact (Reps.one (show Kd.M (Kd.int .i64) _ _ _ a1 [.int .i64 a1] from rfl) (Reps.none _ _))); intro v580 w28 ho29 hb hg_ hnew_; clear hg_ hnew_; (first | rw [← Ny579.out] at ho29 | (simp only [Int.reduceToNat] at ho29; rw [← Ny579.out] at ho29)); have HO581 := Aside0.mk (Kd.R_lower (Kd.R_new' ho29 (Kd.R_lt (ownx HO_8))) (below_size bel)); replace HO_7 := Aside0.mk (Kd.R_below (ownx HO_7) hb); replace HO_8 := Aside0.mk (Kd.R_elder' (ownx HO_8) (Kd.R_base ho29) hb); replace BK569 := Aside0.mk (blk_below (g := gb569) blkz hb); replace HB := Aside0.mk (below_step bel hb); clear hb ho29))
          repeat (go_quiet (first | ((with_reducible refine gate_store (t := 3) (p := 37) rfl ?_); (try (rw [drewN_self wr]; generalize hq_ : World.drewN wr _ = wr; have n0_ := Aside0.mk (Kd.R_at hq_ HO_7.out); have n1_ := Aside0.mk (Kd.R_at hq_ HO_8.out); have n2_ := Aside0.mk (blk_at hq_ BK569.out); have n3_ := Aside0.mk (below_at hq_ HB.out); clear hq_ HO_7 HO_8 BK569 HB; have HO_7 := n0_; have HO_8 := n1_; have BK569 := n2_; have HB := n3_; clear n0_ n1_ n2_ n3_; (try (have HP26 := Kd.R_putg HO_8.out (a1 : Int) 0)))); refine store_event (t := 3) (p := 37) (v := ?vo_w27) (w1 := (wr.setCell ⟨go24, (a1 : Int).toNat, none⟩ (.int .i64 0))) ?hg ?ho ?hn ?hr ?_; (case ho => rfl); (case hg => rfl); (case hn => rfl); (case hr => first | (go_simp; done) | (go_simp; rfl)); intro w27 hw; have hg : wr.grownBy w27 (some go24) := (by rw [hw]; exact HP26.2); have hp_ : Kd.R (Kd.int .i64) 3 w27 w.heap.size (fun _ => True) (.slice (some ⟨go24, 0, none⟩) x8_1.length co25) y578 := (by rw [hw, Ny578.out]; exact HP26.1); clear HP26; replace HO_7 := Aside0.mk (Kd.R_over' (v := (.slice (some ⟨go24, 0, none⟩) x8_1.length co25)) (ownx HO_7) (Kd.R_typed HO_8.out) (by decide) hg); replace BK569 := Aside0.mk (blk_grown (g := gb569) (o := .cells #[.int .i64 a0_0, .slice A0_1 l0_1.length c0_1, .slice A0_2 l0_2.length c0_2] 25 (0, 0)) blkz hg (Kd.R_ne HO_8.out BK569.out (by decide))); replace HO_8 := Aside0.mk (hp_); replace HB := Aside0.mk ((by rw [hw]; exact below_set (HB.out) GB24.out : Below w.heap.size w w27)); clear hg hw hp_) | ((with_reducible refine gate_dst (N := 39) rfl ?_); refine Kd.R_lit (Kd.int .i64) _ 3 ?hg (N := 39) ?hd (xs := ([a1] : List Int)) (inner := [.int .i64 a1]) (ok := fun _ => True) (okp := fun _ => True) ?hr ?hp (fun _ hk => hk) trivial (Below.refl _ _) (Nat.le_refl _) (by simp) ?_; (case hd => rfl); (case hg => rfl); (case hr => first | (go_simp; done) | (go_simp; rfl)); (case hp => exact (Reps.one (show Kd.M (Kd.int .i64) _ _ _ a1 [.int .i64 a1] from rfl) (Reps.none _ _))); intro v580 w28 ho29 hb hg_ hnew_; clear hg_ hnew_; (first | rw [← Ny579.out] at ho29 | (simp only [Int.reduceToNat] at ho29; rw [← Ny579.out] at ho29)); have HO581 := Aside0.mk (Kd.R_lower (Kd.R_new' ho29 (Kd.R_lt (ownx HO_8))) (below_size bel)); replace HO_7 := Aside0.mk (Kd.R_below (ownx HO_7) hb); replace HO_8 := Aside0.mk (Kd.R_elder' (ownx HO_8) (Kd.R_base ho29) hb); replace BK569 := Aside0.mk (blk_below (g := gb569) blkz hb); replace HB := Aside0.mk (below_step bel hb); clear hb ho29)); try go_wp2_with (first | ((with_reducible refine gate_store (t := 3) (p := 37) rfl ?_); (try (rw [drewN_self wr]; generalize hq_ : World.drewN wr _ = wr; have n0_ := Aside0.mk (Kd.R_at hq_ HO_7.out); have n1_ := Aside0.mk (Kd.R_at hq_ HO_8.out); have n2_ := Aside0.mk (blk_at hq_ BK569.out); have n3_ := Aside0.mk (below_at hq_ HB.out); clear hq_ HO_7 HO_8 BK569 HB; have HO_7 := n0_; have HO_8 := n1_; have BK569 := n2_; have HB := n3_; clear n0_ n1_ n2_ n3_; (try (have HP26 := Kd.R_putg HO_8.out (a1 : Int) 0)))); refine store_event (t := 3) (p := 37) (v := ?vo_w27) (w1 := (wr.setCell ⟨go24, (a1 : Int).toNat, none⟩ (.int .i64 0))) ?hg ?ho ?hn ?hr ?_; (case ho => rfl); (case hg => rfl); (case hn => rfl); (case hr => first | (go_simp; done) | (go_simp; rfl)); intro w27 hw; have hg : wr.grownBy w27 (some go24) := (by rw [hw]; exact HP26.2); have hp_ : Kd.R (Kd.int .i64) 3 w27 w.heap.size (fun _ => True) (.slice (some ⟨go24, 0, none⟩) x8_1.length co25) y578 := (by rw [hw, Ny578.out]; exact HP26.1); clear HP26; replace HO_7 := Aside0.mk (Kd.R_over' (v := (.slice (some ⟨go24, 0, none⟩) x8_1.length co25)) (ownx HO_7) (Kd.R_typed HO_8.out) (by decide) hg); replace BK569 := Aside0.mk (blk_grown (g := gb569) (o := .cells #[.int .i64 a0_0, .slice A0_1 l0_1.length c0_1, .slice A0_2 l0_2.length c0_2] 25 (0, 0)) blkz hg (Kd.R_ne HO_8.out BK569.out (by decide))); replace HO_8 := Aside0.mk (hp_); replace HB := Aside0.mk ((by rw [hw]; exact below_set (HB.out) GB24.out : Below w.heap.size w w27)); clear hg hw hp_) | ((with_reducible refine gate_dst (N := 39) rfl ?_); refine Kd.R_lit (Kd.int .i64) _ 3 ?hg (N := 39) ?hd (xs := ([a1] : List Int)) (inner := [.int .i64 a1]) (ok := fun _ => True) (okp := fun _ => True) ?hr ?hp (fun _ hk => hk) trivial (Below.refl _ _) (Nat.le_refl _) (by simp) ?_; (case hd => rfl); (case hg => rfl); (case hr => first | (go_simp; done) | (go_simp; rfl)); (case hp => exact (Reps.one (show Kd.M (Kd.int .i64) _ _ _ a1 [.int .i64 a1] from rfl) (Reps.none _ _))); intro v580 w28 ho29 hb hg_ hnew_; clear hg_ hnew_; (first | rw [← Ny579.out] at ho29 | (simp only [Int.reduceToNat] at ho29; rw [← Ny579.out] at ho29)); have HO581 := Aside0.mk (Kd.R_lower (Kd.R_new' ho29 (Kd.R_lt (ownx HO_8))) (below_size bel)); replace HO_7 := Aside0.mk (Kd.R_below (ownx HO_7) hb); replace HO_8 := Aside0.mk (Kd.R_elder' (ownx HO_8) (Kd.R_base ho29) hb); replace BK569 := Aside0.mk (blk_below (g := gb569) blkz hb); replace HB := Aside0.mk (below_step bel hb); clear hb ho29)))
          go_loopg [10, 11] k1 (fun kq v10 v11 w' => ∃ (x8_2 : List Int) (x10_2 : List Int) (x11_2 : Int), v11 = .int .i64 x11_2 ∧ Aside0 (dropperref05_steps.l1 kq t570 x8_2 x10_2 x11_2 a0_0 l0_1 l0_2 = some r) ∧ Aside0 (kq ≤ k1) ∧ Aside0 (Kd.R Kd.bool 4 w' w.heap.size (fun _ => True) (.slice (some ad577) t570.length co10) t570) ∧ Aside0 (Kd.R (Kd.int .i64) 3 w' w.heap.size (fun k_ => some k_ ≠ (v10 : Value).ownBlock) (.slice (some ⟨go24, 0, none⟩) x8_1.length co25) x8_2) ∧ Aside0 (Kd.R (Kd.int .i64) 3 w' w.heap.size (fun k_ => some k_ ≠ ((.slice (some ⟨go24, 0, none⟩) x8_1.length co25) : Value).ownBlock) v10 x10_2) ∧ Aside0 (w'.heap[gb569]? = some (.cells #[.int .i64 a0_0, (.slice A0_1 l0_1.length c0_1), (.slice A0_2 l0_2.length c0_2)] 25 (0, 0))) ∧ Aside0 (Below w.heap.size w w'))
          case atStart => exact ⟨(y578), (y579), (0), rsz, H', ⟨Nat.le_refl _⟩, ⟨by (with_reducible repeat (first | apply Kd.R_alloc | apply Kd.R_drewN | apply Kd.R_drew)); exact HO_7.out⟩, ⟨by (with_reducible repeat (first | apply Kd.R_alloc | apply Kd.R_drewN | apply Kd.R_drew)); exact Kd.R_mono HO_8.out (fun _ hk => hk.2)⟩, ⟨by (with_reducible repeat (first | apply Kd.R_alloc | apply Kd.R_drewN | apply Kd.R_drew)); exact Kd.R_mono HO581.out (fun _ hk => hk.2)⟩, ⟨blkz⟩, ⟨bel⟩⟩
          case round =>
           clear H'
           try clear c1
           try clear p1
           try clear q1
           try clear hx1
           try clear c2
           try clear p2
           try clear q2
           try clear hx2
           try clear c5
           try clear c5b0
           try clear c5b1
           try clear p5
           try clear q5
           try clear hx5
           try clear c6
           try clear c6b0
           try clear c6b1
           try clear p6
           try clear c7
           try clear c13
           try clear c13b0
           try clear c14
           try clear c14b0
           try clear p15
           try clear q15
           try clear hx15
           try clear hf15
           try clear c19
           try clear c19b0
           try clear c20
           try clear c20b0
           try clear q21
           try clear c22
           try clear c23
           try clear c23b0
           try clear p24
           try clear q24
           try clear hx24
           try clear hf24
           try clear hcz8_0
           try clear hcz8_1
           try clear hcz8_2
           try clear hfz8_0
           try clear hfz8_1
           try clear hfz8_2
           try clear hx15_0
           try clear hx24_0
           try clear hx577_0
           try clear p15
           try clear p2
           try clear p24
           try clear p577
           try clear q15
           try clear q24
           try clear q577
           obtain ⟨x8_2, x10_2, x11_2, rfl, HA, HK2, HO_7, HO_8, HO_10, BK569, HB⟩ := hrel
           have hl8_2 := (Kd.R_reads' HO_8.out).1
           rw [hl8_2] at HO_8
           (try simp only [hl8_2])
           (try simp only [hl8_2] at BK569)
           (try simp only [hl8_2] at HO_7)
           (try simp only [hl8_2] at HO_10)
           cases gk with
           | zero => exact absurd HA.out (by simp [dropperref05_steps.l1])
           | succ k2 =>
            have H := HA.out
            clear HA
            simp only [dropperref05_steps.l1] at H
            by_cases c30 : x11_2 < (x10_2.length : Int)
            ·
             rw [if_pos c30] at H
             have c30b0 : decide (x11_2 < (x10_2.length : Int)) = true := decide_eq_true c30
             try (have c30b0hl8_2 := c30b0; simp only [hl8_2] at c30b0hl8_2)
             clear c30
             have H' := Aside0.mk H
             clear H
             obtain ⟨Ao31, co31, eo31⟩ := Kd.R_slice HO_10.out
             subst eo31
             go_wp2
             repeat (go_quiet (fail); try go_wp2)
             go_loopg [10, 12] k2 (fun kq v10 v12 w' => ∃ (x8_3 : List Int) (x10_3 : List Int) (x12_3 : Int), v12 = .int .i64 x12_3 ∧ Aside0 (dropperref05_steps.l2 kq t570 x8_3 x10_3 x11_2 x12_3 a0_0 l0_1 l0_2 = some r) ∧ Aside0 (kq ≤ k2) ∧ Aside0 (Kd.R Kd.bool 4 w' w.heap.size (fun _ => True) (.slice (some ad577) t570.length co10) t570) ∧ Aside0 (Kd.R (Kd.int .i64) 3 w' w.heap.size (fun k_ => some k_ ≠ (v10 : Value).ownBlock) (.slice (some ⟨go24, 0, none⟩) x8_2.length co25) x8_3) ∧ Aside0 (Kd.R (Kd.int .i64) 3 w' w.heap.size (fun k_ => some k_ ≠ ((.slice (some ⟨go24, 0, none⟩) x8_2.length co25) : Value).ownBlock) v10 x10_3) ∧ Aside0 (w'.heap[gb569]? = some (.cells #[.int .i64 a0_0, (.slice A0_1 l0_1.length c0_1), (.slice A0_2 l0_2.length c0_2)] 25 (0, 0))) ∧ Aside0 (Below w.heap.size w w'))
             case atStart => exact ⟨(x8_2), (x10_2), (0), rsz, H', ⟨Nat.le_refl _⟩, ⟨by (try simp only [hl8_2]); (with_reducible repeat (first | apply Kd.R_alloc | apply Kd.R_drewN | apply Kd.R_drew)); exact HO_7.out⟩, ⟨by (try simp only [hl8_2]); (with_reducible repeat (first | apply Kd.R_alloc | apply Kd.R_drewN | apply Kd.R_drew)); exact HO_8.out⟩, ⟨by (try simp only [hl8_2]); (with_reducible repeat (first | apply Kd.R_alloc | apply Kd.R_drewN | apply Kd.R_drew)); exact HO_10.out⟩, ⟨by (try simp only [hl8_2]); (with_reducible repeat (first | refine blk_drewN ?_ _ | refine blk_drew ?_ | refine blk_alloc ?_ _)); exact BK569.out⟩, ⟨bel⟩⟩
             case round =>
              clear H'
              try clear c1
              try clear p1
              try clear q1
              try clear hx1
              try clear c2
              try clear p2
              try clear q2
              try clear hx2
              try clear c3
              try clear c5
              try clear c5b0
              try clear c5b1
              try clear p5
              try clear q5
              try clear hx5
              try clear c6
              try clear c6b0
              try clear c6b1
              try clear p6
              try clear c7
              try clear c13
              try clear c13b0
              try clear c14
              try clear c14b0
              try clear p15
              try clear q15
              try clear hx15
              try clear hf15
              try clear c19
              try clear c19b0
              try clear c20
              try clear c20b0
              try clear q21
              try clear c22
              try clear c23
              try clear c23b0
              try clear p24
              try clear q24
              try clear hx24
              try clear hf24
              try clear c30
              try clear c30b0
              try clear hcz8_0
              try clear hcz8_1
              try clear hcz8_2
              try clear hfz8_0
              try clear hfz8_1
              try clear hfz8_2
              try clear hx15_0
              try clear hx24_0
              try clear hx577_0
              try clear p1
              try clear p15
              try clear p2
              try clear p24
              try clear p5
              try clear p577
              try clear p6
              try clear q1
              try clear q15
              try clear q2
              try clear q21
              try clear q24
              try clear q5
              try clear q577
              obtain ⟨x8_3, x10_3, x12_3, rfl, HA, HK3, HO_7, HO_8, HO_10, BK569, HB⟩ := hrel
              have hl8_3 := (Kd.R_reads' HO_8.out).1
              rw [hl8_3] at HO_8
              (try simp only [hl8_3])
              (try simp only [hl8_3] at BK569)
              (try simp only [hl8_3] at HO_7)
              (try simp only [hl8_3] at HO_10)
              cases gk with
              | zero => exact absurd HA.out (by simp [dropperref05_steps.l2])
              | succ k3 =>
               have H := HA.out
               clear HA
               simp only [dropperref05_steps.l2] at H
               by_cases c32 : x12_3 < (l0_1.length : Int)
               ·
                rw [if_pos c32] at H
                have c32b0 : decide (x12_3 < (l0_1.length : Int)) = true := decide_eq_true c32
                try (have c32b0hl8_2 := c32b0; simp only [hl8_2] at c32b0hl8_2)
                try (have c32b0hl8_3 := c32b0; simp only [hl8_3] at c32b0hl8_3)
                clear c32
                by_cases c33 : 0 ≤ x11_2
                ·
                 rw [if_pos c33] at H
                 have c33b0 : decide (0 ≤ x11_2) = true := decide_eq_true c33
                 clear c33
                 by_cases c34 : x11_2 < (x10_3.length : Int)
                 ·
                  rw [if_pos c34] at H
                  have c34b0 : decide (x11_2 < (x10_3.length : Int)) = true := decide_eq_true c34
                  try (have c34b0hl8_2 := c34b0; simp only [hl8_2] at c34b0hl8_2)
                  try (have c34b0hl8_3 := c34b0; simp only [hl8_3] at c34b0hl8_3)
                  clear c34
                  by_cases c35 : 0 ≤ x12_3
                  ·
                   rw [if_pos c35] at H
                   have c35b0 := eq_true c35
                   have c35b1 : decide (0 ≤ x12_3) = true := decide_eq_true c35
                   clear c35
                   obtain ⟨ji36, hji36⟩ : ∃ j_ : Int, (shl .i64 1 x12_3) = j_ := ⟨_, rfl⟩
                   replace H : (if 0 ≤ (Go.bits .xor .i64 (rd x10_3 x11_2) (ji36)) then (if (Go.bits .xor .i64 (rd x10_3 x11_2) (ji36)) < (t570.length : Int) then (if rdOf false t570 (Go.bits .xor .i64 (rd x10_3 x11_2) (ji36)) = true then (if (Go.bits .xor .i64 (rd x10_3 x11_2) (ji36)) < (x8_3.length : Int) then (if (rd x8_3 (Go.bits .xor .i64 (rd x10_3 x11_2) (ji36))) < 0 then (if 0 ≤ (rd x10_3 x11_2) then (if (rd x10_3 x11_2) < (x8_3.length : Int) then (if x10_3.length < 17592186044416 then (dropperref05_steps.l2 k3 t570 (x8_3.set ((Go.bits .xor .i64 (rd x10_3 x11_2) (ji36)) : Int).toNat (wrap64 ((rd x8_3 (rd x10_3 x11_2)) + 1))) (x10_3 ++ [Go.bits .xor .i64 (rd x10_3 x11_2) (ji36)]) x11_2 (wrap64 (x12_3 + 1)) a0_0 l0_1 l0_2) else (none)) else (none)) else (none)) else (dropperref05_steps.l2 k3 t570 x8_3 x10_3 x11_2 (wrap64 (x12_3 + 1)) a0_0 l0_1 l0_2)) else (none)) else (dropperref05_steps.l2 k3 t570 x8_3 x10_3 x11_2 (wrap64 (x12_3 + 1)) a0_0 l0_1 l0_2)) else (none)) else (none)) = some r := by first | (rw [hji36] at H; exact H) | (simp only [hji36] at H ⊢; exact H)
                   have hji36_ : (IntKind.i64.wrap (1 * 2 ^ min x12_3.toNat 64)) = ji36 := hji36
                   have hji36z : x12_3 ≤ 64 → (IntKind.i64.wrap (1 * 2 ^ x12_3.toNat)) = ji36 := shl_small hji36
                   have hji36u : (IntKind.i64.wrap (2 ^ min x12_3.toNat 64)) = ji36 := by have h_ := hji36_; rw [Int.one_mul] at h_; exact h_
                   have hji36v : x12_3 ≤ 64 → (IntKind.i64.wrap (2 ^ x12_3.toNat)) = ji36 := fun hle_ => by have h_ := hji36z hle_; rw [Int.one_mul] at h_; exact h_
                   have hji36y : (wrap64 (1 * 2 ^ min x12_3.toNat 64)) = ji36 := (i64_w _).symm.trans hji36_
                   have hji36x : x12_3 ≤ 64 → (wrap64 (1 * 2 ^ x12_3.toNat)) = ji36 := fun h_ => (i64_w _).symm.trans (hji36z h_)
                   by_cases c37 : 0 ≤ (Go.bits .xor .i64 (rd x10_3 x11_2) (ji36))
                   ·
                    rw [if_pos c37] at H
                    have c37b0 : decide (0 ≤ (Go.bits .xor .i64 (rd x10_3 x11_2) (ji36))) = true := decide_eq_true c37
                    clear c37
                    by_cases c38 : (Go.bits .xor .i64 (rd x10_3 x11_2) (ji36)) < (t570.length : Int)
                    ·
                     rw [if_pos c38] at H
                     have c38b0 : decide ((Go.bits .xor .i64 (rd x10_3 x11_2) (ji36)) < (t570.length : Int)) = true := decide_eq_true c38
                     try (have c38b0hl8_2 := c38b0; simp only [hl8_2] at c38b0hl8_2)
                     try (have c38b0hl8_3 := c38b0; simp only [hl8_3] at c38b0hl8_3)
                     clear c38
                     obtain ⟨bq39, hbq39⟩ : ∃ b_ : Bool, b_ = (rdOf false t570 (Go.bits .xor .i64 (rd x10_3 x11_2) (ji36))) := ⟨_, rfl⟩
                     replace H : (if bq39 = true then (if (Go.bits .xor .i64 (rd x10_3 x11_2) (ji36)) < (x8_3.length : Int) then (if (rd x8_3 (Go.bits .xor .i64 (rd x10_3 x11_2) (ji36))) < 0 then (if 0 ≤ (rd x10_3 x11_2) then (if (rd x10_3 x11_2) < (x8_3.length : Int) then (if x10_3.length < 17592186044416 then (dropperref05_steps.l2 k3 t570 (x8_3.set ((Go.bits .xor .i64 (rd x10_3 x11_2) (ji36)) : Int).toNat (wrap64 ((rd x8_3 (rd x10_3 x11_2)) + 1))) (x10_3 ++ [Go.bits .xor .i64 (rd x10_3 x11_2) (ji36)]) x11_2 (wrap64 (x12_3 + 1)) a0_0 l0_1 l0_2) else (none)) else (none)) else (none)) else (dropperref05_steps.l2 k3 t570 x8_3 x10_3 x11_2 (wrap64 (x12_3 + 1)) a0_0 l0_1 l0_2)) else (none)) else (dropperref05_steps.l2 k3 t570 x8_3 x10_3 x11_2 (wrap64 (x12_3 + 1)) a0_0 l0_1 l0_2)) = some r := by rw [← hbq39] at H; exact H
                     have Nbq39 := Aside0.mk hbq39
                     clear hbq39
                     by_cases c40 : bq39 = true
                     ·
                      subst c40
                      have H1 : (if (Go.bits .xor .i64 (rd x10_3 x11_2) (ji36)) < (x8_3.length : Int) then (if (rd x8_3 (Go.bits .xor .i64 (rd x10_3 x11_2) (ji36))) < 0 then (if 0 ≤ (rd x10_3 x11_2) then (if (rd x10_3 x11_2) < (x8_3.length : Int) then (if x10_3.length < 17592186044416 then (dropperref05_steps.l2 k3 t570 (x8_3.set ((Go.bits .xor .i64 (rd x10_3 x11_2) (ji36)) : Int).toNat (wrap64 ((rd x8_3 (rd x10_3 x11_2)) + 1))) (x10_3 ++ [Go.bits .xor .i64 (rd x10_3 x11_2) (ji36)]) x11_2 (wrap64 (x12_3 + 1)) a0_0 l0_1 l0_2) else (none)) else (none)) else (none)) else (dropperref05_steps.l2 k3 t570 x8_3 x10_3 x11_2 (wrap64 (x12_3 + 1)) a0_0 l0_1 l0_2)) else (none)) = some r := by rw [if_pos rfl] at H; exact H
                      clear H
                      have H := H1
                      clear H1
                      by_cases c41 : (Go.bits .xor .i64 (rd x10_3 x11_2) (ji36)) < (x8_3.length : Int)
                      ·
                       rw [if_pos c41] at H
                       have c41b0 : decide ((Go.bits .xor .i64 (rd x10_3 x11_2) (ji36)) < (x8_3.length : Int)) = true := decide_eq_true c41
                       try (have c41b0hl8_2 := c41b0; simp only [hl8_2] at c41b0hl8_2)
                       try (have c41b0hl8_3 := c41b0; simp only [hl8_3] at c41b0hl8_3)
                       clear c41
                       by_cases c42 : (rd x8_3 (Go.bits .xor .i64 (rd x10_3 x11_2) (ji36))) < 0
                       ·
                        rw [if_pos c42] at H
                        have c42b0 : decide ((rd x8_3 (Go.bits .xor .i64 (rd x10_3 x11_2) (ji36))) < 0) = true := decide_eq_true c42
                        clear c42
                        by_cases c43 : 0 ≤ (rd x10_3 x11_2)
                        ·
                         rw [if_pos c43] at H
                         have c43b0 : decide (0 ≤ (rd x10_3 x11_2)) = true := decide_eq_true c43
                         clear c43
                         by_cases c44 : (rd x10_3 x11_2) < (x8_3.length : Int)
                         ·
                          rw [if_pos c44] at H
                          have c44b0 : decide ((rd x10_3 x11_2) < (x8_3.length : Int)) = true := decide_eq_true c44
                          try (have c44b0hl8_2 := c44b0; simp only [hl8_2] at c44b0hl8_2)
                          try (have c44b0hl8_3 := c44b0; simp only [hl8_3] at c44b0hl8_3)
                          clear c44
                          obtain ⟨y587, hy587⟩ : ∃ y_ : List Int, y_ = (x8_3.set ((Go.bits .xor .i64 (rd x10_3 x11_2) (ji36)) : Int).toNat (wrap64 ((rd x8_3 (rd x10_3 x11_2)) + 1))) := ⟨_, rfl⟩
                          replace H : (if x10_3.length < 17592186044416 then (dropperref05_steps.l2 k3 t570 y587 (x10_3 ++ [Go.bits .xor .i64 (rd x10_3 x11_2) (ji36)]) x11_2 (wrap64 (x12_3 + 1)) a0_0 l0_1 l0_2) else (none)) = some r := by first | (rw [hy587]; with_reducible exact H) | (have H2_ := (Option.bind_some _ _).symm.trans H; rw [hy587]; with_reducible exact H2_) | (have H2_ := (Option.bind_some _ _).symm.trans H; with_reducible exact H2_) | with_reducible exact H | (rw [hy587]; exact H) | exact H
                          have Ny587 := Aside0.mk hy587
                          clear hy587
                          by_cases c46 : x10_3.length < 17592186044416
                          ·
                           rw [if_pos c46] at H
                           have LMc46 := Aside0.mk c46
                           clear c46
                           obtain ⟨y588, hy588⟩ : ∃ y_ : List Int, y_ = (x10_3 ++ [Go.bits .xor .i64 (rd x10_3 x11_2) (ji36)]) := ⟨_, rfl⟩
                           replace H : (dropperref05_steps.l2 k3 t570 y587 y588 x11_2 (wrap64 (x12_3 + 1)) a0_0 l0_1 l0_2) = some r := by first | (rw [hy588]; with_reducible exact H) | (have H2_ := (Option.bind_some _ _).symm.trans H; rw [hy588]; with_reducible exact H2_) | (have H2_ := (Option.bind_some _ _).symm.trans H; with_reducible exact H2_) | with_reducible exact H | (rw [hy588]; exact H) | exact H
                           have Ny588 := Aside0.mk hy588
                           clear hy588
                           have H' := Aside0.mk H
                           clear H
                           have hcz47_0 := blkc BK569.out 0 (.int .i64 a0_0) rfl
                           have hcz47_1 := blkc BK569.out 1 (.slice A0_1 l0_1.length c0_1) rfl
                           have hcz47_2 := blkc BK569.out 2 (.slice A0_2 l0_2.length c0_2) rfl
                           have hfz47_0 := blk_frozen BK569.out 0
                           have hfz47_1 := blk_frozen BK569.out 1
                           have hfz47_2 := blk_frozen BK569.out 2
                           obtain ⟨Ao48, co48, eo48⟩ := Kd.R_slice HO_10.out
                           subst eo48
                           have p582 : 0 ≤ (x11_2 : Int) := of_decide_eq_true asz
                           have q582 : x11_2 < (x10_3.length : Int) := of_decide_eq_true asz
                           obtain ⟨ad582, e582, hx582_0⟩ := Kd.at_int (Kd.R_reads' HO_10.out).2.2 x11_2 p582 q582
                           cases e582
                           replace p582 := eq_true p582
                           replace q582 := eq_true q582
                           have p583 : 0 ≤ ((Go.bits .xor .i64 (rd x10_3 x11_2) (ji36)) : Int) := of_decide_eq_true asz
                           have q583 : (Go.bits .xor .i64 (rd x10_3 x11_2) (ji36)) < (t570.length : Int) := of_decide_eq_true asz
                           obtain ⟨ad583, e583, hx583_0⟩ := Kd.at_bool (Kd.R_reads' HO_7.out).2.2 (Go.bits .xor .i64 (rd x10_3 x11_2) (ji36)) p583 q583
                           (try rw [← Nbq21.out] at hx583_0)
                           (try rw [← Nbq39.out] at hx583_0)
                           obtain rfl : ad577 = ad583 := (by injection e583)
                           replace p583 := eq_true p583
                           replace q583 := eq_true q583
                           have p584 : 0 ≤ ((Go.bits .xor .i64 (rd x10_3 x11_2) (ji36)) : Int) := of_decide_eq_true asz
                           have q584 : (Go.bits .xor .i64 (rd x10_3 x11_2) (ji36)) < (x8_3.length : Int) := of_decide_eq_true asz
                           obtain ⟨ad584, e584, hx584_0⟩ := Kd.at_int (Kd.R_reads' HO_8.out).2.2 (Go.bits .xor .i64 (rd x10_3 x11_2) (ji36)) p584 q584
                           obtain rfl : (⟨go24, 0, none⟩ : Addr) = ad584 := (by injection e584)
                           (first | simp only [add_plain] at hx584_0 | simp only [add_at] at hx584_0 | simp only [Addr.add, Nat.zero_add] at hx584_0 | skip)
                           replace p584 := eq_true p584
                           replace q584 := eq_true q584
                           have p585 : 0 ≤ (x11_2 : Int) := of_decide_eq_true asz
                           have q585 : x11_2 < (x10_3.length : Int) := of_decide_eq_true asz
                           obtain ⟨ad585, e585, hx585_0⟩ := Kd.at_int (Kd.R_reads' HO_10.out).2.2 x11_2 p585 q585
                           obtain rfl : ad582 = ad585 := (by injection e585)
                           replace p585 := eq_true p585
                           replace q585 := eq_true q585
                           have p586 : 0 ≤ ((rd x10_3 x11_2) : Int) := of_decide_eq_true asz
                           have q586 : (rd x10_3 x11_2) < (x8_3.length : Int) := of_decide_eq_true asz
                           obtain ⟨ad586, e586, hx586_0⟩ := Kd.at_int (Kd.R_reads' HO_8.out).2.2 (rd x10_3 x11_2) p586 q586
                           obtain rfl : (⟨go24, 0, none⟩ : Addr) = ad586 := (by injection e586)
                           (first | simp only [add_plain] at hx586_0 | simp only [add_at] at hx586_0 | simp only [Addr.add, Nat.zero_add] at hx586_0 | skip)
                           replace p586 := eq_true p586
                           replace q586 := eq_true q586
                           have p45 : 0 ≤ ((Go.bits .xor .i64 (rd x10_3 x11_2) (ji36)) : Int) := of_decide_eq_true asz
                           have q45 : ((Go.bits .xor .i64 (rd x10_3 x11_2) (ji36)) : Int) < ((x8_3.length : Int) : Int) := of_decide_eq_true asz
                           obtain ⟨hx45_0, hf45_0⟩ := Kd.R_celln 0 HO_8.out ((Go.bits .xor .i64 (rd x10_3 x11_2) (ji36)) : Int) p45 q45
                           replace p45 := eq_true p45
                           replace q45 := eq_true q45
                           have HP49 := Kd.R_putg HO_8.out ((Go.bits .xor .i64 (rd x10_3 x11_2) (ji36)) : Int) (wrap64 ((rd x8_3 (rd x10_3 x11_2)) + 1))
                           go_upto_region 17 with (first | ((with_reducible refine gate_store (t := 3) (p := 81) rfl ?_); (try (rw [drewN_self wr]; generalize hq_ : World.drewN wr _ = wr; have n0_ := Aside0.mk (Kd.R_at hq_ HO_7.out); have n1_ := Aside0.mk (Kd.R_at hq_ HO_8.out); have n2_ := Aside0.mk (Kd.R_at hq_ HO_10.out); have n3_ := Aside0.mk (blk_at hq_ BK569.out); have n4_ := Aside0.mk (below_at hq_ HB.out); clear hq_ HO_7 HO_8 HO_10 BK569 HB; have HO_7 := n0_; have HO_8 := n1_; have HO_10 := n2_; have BK569 := n3_; have HB := n4_; clear n0_ n1_ n2_ n3_ n4_; (try (obtain ⟨hx45_0, hf45_0⟩ := Kd.R_celln 0 HO_8.out ((Go.bits .xor .i64 (rd x10_3 x11_2) (ji36)) : Int) (of_eq_true p45) (of_eq_true q45))); (try (have HP49 := Kd.R_putg HO_8.out ((Go.bits .xor .i64 (rd x10_3 x11_2) (ji36)) : Int) (wrap64 ((rd x8_3 (rd x10_3 x11_2)) + 1)))))); refine store_event (t := 3) (p := 81) (v := ?vo_w50) (w1 := (wr.setCell ⟨go24, ((Go.bits .xor .i64 (rd x10_3 x11_2) (ji36)) : Int).toNat, none⟩ (.int .i64 (wrap64 ((rd x8_3 (rd x10_3 x11_2)) + 1))))) ?hg ?ho ?hn ?hr ?_; (case ho => rfl); (case hg => rfl); (case hn => rfl); (case hr => first | (go_simp; done) | (go_simp; rfl)); intro w50 hw; have hg : wr.grownBy w50 (some go24) := (by rw [hw]; exact HP49.2); have hp_ : Kd.R (Kd.int .i64) 3 w50 w.heap.size (fun k_ => some k_ ≠ (.slice (some ad582) x10_3.length co48 : Value).ownBlock) (.slice (some ⟨go24, 0, none⟩) x8_3.length co25) y587 := (by rw [hw, Ny587.out]; exact HP49.1); clear HP49; replace HO_7 := Aside0.mk (Kd.R_over' (v := (.slice (some ⟨go24, 0, none⟩) x8_3.length co25)) (ownx HO_7) (Kd.R_typed HO_8.out) (by decide) hg); replace HO_10 := Aside0.mk (Kd.R_after (v := (.slice (some ⟨go24, 0, none⟩) x8_3.length co25)) (v1 := (.slice (some ⟨go24, 0, none⟩) x8_3.length co25)) (ok := (fun _ => True)) (by (with_reducible repeat (first | apply Kd.R_alloc | apply Kd.R_drewN | apply Kd.R_drew)); exact Kd.R_mono HO_10.out (fun _ hk => ⟨trivial, hk⟩)) hg (.inl rfl)); replace BK569 := Aside0.mk (blk_grown (g := gb569) (o := .cells #[.int .i64 a0_0, .slice A0_1 l0_1.length c0_1, .slice A0_2 l0_2.length c0_2] 25 (0, 0)) blkz hg (Kd.R_ne HO_8.out BK569.out (by decide))); replace HO_8 := Aside0.mk (hp_); replace HB := Aside0.mk ((by rw [hw]; exact below_set (HB.out) GB24.out : Below w.heap.size w w50)); clear hg hw hp_) | ((with_reducible refine gate_builtin (b := .append) (xs := #[.tmp 82, .tmp 84]) rfl ?_); at_builtin; refine Kd.R_append (Kd.int .i64) (w0 := w) w.heap.size rfl (.tmp 82) (.tmp 84) 28 3 (.int .i64 0) 8 rfl Tryd.underlying28 info3 rfl (by decide) (by omega) (.slice (some ad582) x10_3.length co48) x10_3 (Go.bits .xor .i64 (rd x10_3 x11_2) (ji36)) [.int .i64 (Go.bits .xor .i64 (rd x10_3 x11_2) (ji36))] (fun k_ => some k_ ≠ (.slice (some ⟨go24, 0, none⟩) x8_3.length co25 : Value).ownBlock) (fun _ => False) rfl rfl ?aP (fun _ hk => hk.elim) ?aF ?aO ?aB ?aS ?aL ?_; (case aP => exact rfl); (case aB => exact bel); (case aF => exact (fun k_ hk => Kd.fresh' (Kd.R_lt (ownx HO_8)) k_ hk)); (case aO => exact (by (with_reducible repeat (first | apply Kd.R_alloc | apply Kd.R_drewN | apply Kd.R_drew)); exact Kd.R_mono HO_10.out (fun _ hk => hk.2))); (case aS => exact (below_size bel)); (case aL => have := LMc46.out; omega); intro v589 w51 ho hb hg hat; rw [← Ny588.out] at ho; have n0_ := Aside0.mk (Kd.R_over' (ownx HO_7) (Kd.R_typed (ownx HO_10)) (by decide) hg); have n1_ := Aside0.mk (Kd.R_after (ok := (fun _ => True)) (by (with_reducible repeat (first | apply Kd.R_alloc | apply Kd.R_drewN | apply Kd.R_drew)); exact Kd.R_mono HO_8.out (fun _ hk => ⟨trivial, hk⟩)) hg hat); have n2_ := Aside0.mk (blk_grown (g := gb569) (o := .cells #[.int .i64 a0_0, .slice A0_1 l0_1.length c0_1, .slice A0_2 l0_2.length c0_2] 25 (0, 0)) blkz hg (Kd.R_ne HO_10.out BK569.out (by decide))); have n3_ := Aside0.mk (hb); have n4_ := Aside0.mk (ho); clear HO_7; clear HO_8; clear BK569; clear HB; clear HO_10; have HO_7 := n0_; have HO_8 := n1_; have BK569 := n2_; have HB := n3_; have HO590 := n4_; clear n0_ n1_ n2_ n3_ n4_; clear ho hb hg hat))
                           go_quiet (fail)
                           go_wp2_with (first | ((with_reducible refine gate_store (t := 3) (p := 81) rfl ?_); (try (rw [drewN_self wr]; generalize hq_ : World.drewN wr _ = wr; have n0_ := Aside0.mk (Kd.R_at hq_ HO_7.out); have n1_ := Aside0.mk (Kd.R_at hq_ HO_8.out); have n2_ := Aside0.mk (Kd.R_at hq_ HO_10.out); have n3_ := Aside0.mk (blk_at hq_ BK569.out); have n4_ := Aside0.mk (below_at hq_ HB.out); clear hq_ HO_7 HO_8 HO_10 BK569 HB; have HO_7 := n0_; have HO_8 := n1_; have HO_10 := n2_; have BK569 := n3_; have HB := n4_; clear n0_ n1_ n2_ n3_ n4_; (try (obtain ⟨hx45_0, hf45_0⟩ := Kd.R_celln 0 HO_8.out ((Go.bits .xor .i64 (rd x10_3 x11_2) (ji36)) : Int) (of_eq_true p45) (of_eq_true q45))); (try (have HP49 := Kd.R_putg HO_8.out ((Go.bits .xor .i64 (rd x10_3 x11_2) (ji36)) : Int) (wrap64 ((rd x8_3 (rd x10_3 x11_2)) + 1)))))); refine store_event (t := 3) (p := 81) (v := ?vo_w50) (w1 := (wr.setCell ⟨go24, ((Go.bits .xor .i64 (rd x10_3 x11_2) (ji36)) : Int).toNat, none⟩ (.int .i64 (wrap64 ((rd x8_3 (rd x10_3 x11_2)) + 1))))) ?hg ?ho ?hn ?hr ?_; (case ho => rfl); (case hg => rfl); (case hn => rfl); (case hr => first | (go_simp; done) | (go_simp; rfl)); intro w50 hw; have hg : wr.grownBy w50 (some go24) := (by rw [hw]; exact HP49.2); have hp_ : Kd.R (Kd.int .i64) 3 w50 w.heap.size (fun k_ => some k_ ≠ (.slice (some ad582) x10_3.length co48 : Value).ownBlock) (.slice (some ⟨go24, 0, none⟩) x8_3.length co25) y587 := (by rw [hw, Ny587.out]; exact HP49.1); clear HP49; replace HO_7 := Aside0.mk (Kd.R_over' (v := (.slice (some ⟨go24, 0, none⟩) x8_3.length co25)) (ownx HO_7) (Kd.R_typed HO_8.out) (by decide) hg); replace HO_10 := Aside0.mk (Kd.R_after (v := (.slice (some ⟨go24, 0, none⟩) x8_3.length co25)) (v1 := (.slice (some ⟨go24, 0, none⟩) x8_3.length co25)) (ok := (fun _ => True)) (by (with_reducible repeat (first | apply Kd.R_alloc | apply Kd.R_drewN | apply Kd.R_drew)); exact Kd.R_mono HO_10.out (fun _ hk => ⟨trivial, hk⟩)) hg (.inl rfl)); replace BK569 := Aside0.mk (blk_grown (g := gb569) (o := .cells #[.int .i64 a0_0, .slice A0_1 l0_1.length c0_1, .slice A0_2 l0_2.length c0_2] 25 (0, 0)) blkz hg (Kd.R_ne HO_8.out BK569.out (by decide))); replace HO_8 := Aside0.mk (hp_); replace HB := Aside0.mk ((by rw [hw]; exact below_set (HB.out) GB24.out : Below w.heap.size w w50)); clear hg hw hp_) | ((with_reducible refine gate_builtin (b := .append) (xs := #[.tmp 82, .tmp 84]) rfl ?_); at_builtin; refine Kd.R_append (Kd.int .i64) (w0 := w) w.heap.size rfl (.tmp 82) (.tmp 84) 28 3 (.int .i64 0) 8 rfl Tryd.underlying28 info3 rfl (by decide) (by omega) (.slice (some ad582) x10_3.length co48) x10_3 (Go.bits .xor .i64 (rd x10_3 x11_2) (ji36)) [.int .i64 (Go.bits .xor .i64 (rd x10_3 x11_2) (ji36))] (fun k_ => some k_ ≠ (.slice (some ⟨go24, 0, none⟩) x8_3.length co25 : Value).ownBlock) (fun _ => False) rfl rfl ?aP (fun _ hk => hk.elim) ?aF ?aO ?aB ?aS ?aL ?_; (case aP => exact rfl); (case aB => exact bel); (case aF => exact (fun k_ hk => Kd.fresh' (Kd.R_lt (ownx HO_8)) k_ hk)); (case aO => exact (by (with_reducible repeat (first | apply Kd.R_alloc | apply Kd.R_drewN | apply Kd.R_drew)); exact Kd.R_mono HO_10.out (fun _ hk => hk.2))); (case aS => exact (below_size bel)); (case aL => have := LMc46.out; omega); intro v589 w51 ho hb hg hat; rw [← Ny588.out] at ho; have n0_ := Aside0.mk (Kd.R_over' (ownx HO_7) (Kd.R_typed (ownx HO_10)) (by decide) hg); have n1_ := Aside0.mk (Kd.R_after (ok := (fun _ => True)) (by (with_reducible repeat (first | apply Kd.R_alloc | apply Kd.R_drewN | apply Kd.R_drew)); exact Kd.R_mono HO_8.out (fun _ hk => ⟨trivial, hk⟩)) hg hat); have n2_ := Aside0.mk (blk_grown (g := gb569) (o := .cells #[.int .i64 a0_0, .slice A0_1 l0_1.length c0_1, .slice A0_2 l0_2.length c0_2] 25 (0, 0)) blkz hg (Kd.R_ne HO_10.out BK569.out (by decide))); have n3_ := Aside0.mk (hb); have n4_ := Aside0.mk (ho); clear HO_7; clear HO_8; clear BK569; clear HB; clear HO_10; have HO_7 := n0_; have HO_8 := n1_; have BK569 := n2_; have HB := n3_; have HO590 := n4_; clear n0_ n1_ n2_ n3_ n4_; clear ho hb hg hat))
                           (try simp only [← hl8_3])
                           go_roundg k3
                           case measure => have := HK1.out; have := HK2.out; have := HK3.out; omega
                           case rel => exact ⟨(y587), (y588), (wrap64 (x12_3 + 1)), rsz, H', ⟨by have := HK1.out; have := HK2.out; have := HK3.out; omega⟩, ⟨by (try simp only [hl8_2]); (try simp only [hl8_3]); (with_reducible repeat (first | apply Kd.R_alloc | apply Kd.R_drewN | apply Kd.R_drew)); exact HO_7.out⟩, ⟨by (try simp only [hl8_2]); (try simp only [hl8_3]); (with_reducible repeat (first | apply Kd.R_alloc | apply Kd.R_drewN | apply Kd.R_drew)); exact Kd.R_mono HO_8.out (fun _ hk => hk.2)⟩, ⟨by (try simp only [hl8_2]); (try simp only [hl8_3]); (with_reducible repeat (first | apply Kd.R_alloc | apply Kd.R_drewN | apply Kd.R_drew)); exact HO590.out⟩, ⟨by (try simp only [hl8_2]); (try simp only [hl8_3]); (with_reducible repeat (first | refine blk_drewN ?_ _ | refine blk_drew ?_ | refine blk_alloc ?_ _)); exact BK569.out⟩, ⟨bel⟩⟩
                          ·
                           rw [if_neg c46] at H
                           exact absurd H (by simp)
                         ·
                          rw [if_neg c44] at H
                          exact absurd H (by simp)
                        ·
                         rw [if_neg c43] at H
                         exact absurd H (by simp)
                       ·
                        rw [if_neg c42] at H
                        have c42b0 : decide ((rd x8_3 (Go.bits .xor .i64 (rd x10_3 x11_2) (ji36))) < 0) = false := decide_eq_false c42
                        clear c42
                        have H' := Aside0.mk H
                        clear H
                        have hcz52_0 := blkc BK569.out 0 (.int .i64 a0_0) rfl
                        have hcz52_1 := blkc BK569.out 1 (.slice A0_1 l0_1.length c0_1) rfl
                        have hcz52_2 := blkc BK569.out 2 (.slice A0_2 l0_2.length c0_2) rfl
                        have hfz52_0 := blk_frozen BK569.out 0
                        have hfz52_1 := blk_frozen BK569.out 1
                        have hfz52_2 := blk_frozen BK569.out 2
                        obtain ⟨Ao53, co53, eo53⟩ := Kd.R_slice HO_10.out
                        subst eo53
                        have p582 : 0 ≤ (x11_2 : Int) := of_decide_eq_true asz
                        have q582 : x11_2 < (x10_3.length : Int) := of_decide_eq_true asz
                        obtain ⟨ad582, e582, hx582_0⟩ := Kd.at_int (Kd.R_reads' HO_10.out).2.2 x11_2 p582 q582
                        cases e582
                        replace p582 := eq_true p582
                        replace q582 := eq_true q582
                        have p583 : 0 ≤ ((Go.bits .xor .i64 (rd x10_3 x11_2) (ji36)) : Int) := of_decide_eq_true asz
                        have q583 : (Go.bits .xor .i64 (rd x10_3 x11_2) (ji36)) < (t570.length : Int) := of_decide_eq_true asz
                        obtain ⟨ad583, e583, hx583_0⟩ := Kd.at_bool (Kd.R_reads' HO_7.out).2.2 (Go.bits .xor .i64 (rd x10_3 x11_2) (ji36)) p583 q583
                        (try rw [← Nbq21.out] at hx583_0)
                        (try rw [← Nbq39.out] at hx583_0)
                        obtain rfl : ad577 = ad583 := (by injection e583)
                        replace p583 := eq_true p583
                        replace q583 := eq_true q583
                        have p584 : 0 ≤ ((Go.bits .xor .i64 (rd x10_3 x11_2) (ji36)) : Int) := of_decide_eq_true asz
                        have q584 : (Go.bits .xor .i64 (rd x10_3 x11_2) (ji36)) < (x8_3.length : Int) := of_decide_eq_true asz
                        obtain ⟨ad584, e584, hx584_0⟩ := Kd.at_int (Kd.R_reads' HO_8.out).2.2 (Go.bits .xor .i64 (rd x10_3 x11_2) (ji36)) p584 q584
                        obtain rfl : (⟨go24, 0, none⟩ : Addr) = ad584 := (by injection e584)
                        (first | simp only [add_plain] at hx584_0 | simp only [add_at] at hx584_0 | simp only [Addr.add, Nat.zero_add] at hx584_0 | skip)
                        replace p584 := eq_true p584
                        replace q584 := eq_true q584
                        go_wp2
                        repeat (go_quiet (fail); try go_wp2)
                        (try simp only [← hl8_3])
                        go_roundg k3
                        case measure => have := HK1.out; have := HK2.out; have := HK3.out; omega
                        case rel => exact ⟨(x8_3), (x10_3), (wrap64 (x12_3 + 1)), rsz, H', ⟨by have := HK1.out; have := HK2.out; have := HK3.out; omega⟩, ⟨by (try simp only [hl8_2]); (try simp only [hl8_3]); (with_reducible repeat (first | apply Kd.R_alloc | apply Kd.R_drewN | apply Kd.R_drew)); exact HO_7.out⟩, ⟨by (try simp only [hl8_2]); (try simp only [hl8_3]); (with_reducible repeat (first | apply Kd.R_alloc | apply Kd.R_drewN | apply Kd.R_drew)); exact HO_8.out⟩, ⟨by (try simp only [hl8_2]); (try simp only [hl8_3]); (with_reducible repeat (first | apply Kd.R_alloc | apply Kd.R_drewN | apply Kd.R_drew)); exact HO_10.out⟩, ⟨by (try simp only [hl8_2]); (try simp only [hl8_3]); (with_reducible repeat (first | refine blk_drewN ?_ _ | refine blk_drew ?_ | refine blk_alloc ?_ _)); exact BK569.out⟩, ⟨bel⟩⟩
                      ·
                       rw [if_neg c41] at H
                       exact absurd H (by simp)
                     ·
                      replace c40 := Bool.eq_false_iff.mpr c40
                      subst c40
                      have H1 : (dropperref05_steps.l2 k3 t570 x8_3 x10_3 x11_2 (wrap64 (x12_3 + 1)) a0_0 l0_1 l0_2) = some r := by rw [if_neg (show ¬ (false = true) by decide)] at H; exact H
                      clear H
                      have H := H1
                      clear H1
                      have H' := Aside0.mk H
                      clear H
                      have hcz54_0 := blkc BK569.out 0 (.int .i64 a0_0) rfl
                      have hcz54_1 := blkc BK569.out 1 (.slice A0_1 l0_1.length c0_1) rfl
                      have hcz54_2 := blkc BK569.out 2 (.slice A0_2 l0_2.length c0_2) rfl
                      have hfz54_0 := blk_frozen BK569.out 0
                      have hfz54_1 := blk_frozen BK569.out 1
                      have hfz54_2 := blk_frozen BK569.out 2
                      obtain ⟨Ao55, co55, eo55⟩ := Kd.R_slice HO_10.out
                      subst eo55
                      have p582 : 0 ≤ (x11_2 : Int) := of_decide_eq_true asz
                      have q582 : x11_2 < (x10_3.length : Int) := of_decide_eq_true asz
                      obtain ⟨ad582, e582, hx582_0⟩ := Kd.at_int (Kd.R_reads' HO_10.out).2.2 x11_2 p582 q582
                      cases e582
                      replace p582 := eq_true p582
                      replace q582 := eq_true q582
                      have p583 : 0 ≤ ((Go.bits .xor .i64 (rd x10_3 x11_2) (ji36)) : Int) := of_decide_eq_true asz
                      have q583 : (Go.bits .xor .i64 (rd x10_3 x11_2) (ji36)) < (t570.length : Int) := of_decide_eq_true asz
                      obtain ⟨ad583, e583, hx583_0⟩ := Kd.at_bool (Kd.R_reads' HO_7.out).2.2 (Go.bits .xor .i64 (rd x10_3 x11_2) (ji36)) p583 q583
                      (try rw [← Nbq21.out] at hx583_0)
                      (try rw [← Nbq39.out] at hx583_0)
                      obtain rfl : ad577 = ad583 := (by injection e583)
                      replace p583 := eq_true p583
                      replace q583 := eq_true q583
                      go_wp2
                      repeat (go_quiet (fail); try go_wp2)
                      (try simp only [← hl8_3])
                      go_roundg k3
                      case measure => have := HK1.out; have := HK2.out; have := HK3.out; omega
                      case rel => exact ⟨(x8_3), (x10_3), (wrap64 (x12_3 + 1)), rsz, H', ⟨by have := HK1.out; have := HK2.out; have := HK3.out; omega⟩, ⟨by (try simp only [hl8_2]); (try simp only [hl8_3]); (with_reducible repeat (first | apply Kd.R_alloc | apply Kd.R_drewN | apply Kd.R_drew)); exact HO_7.out⟩, ⟨by (try simp only [hl8_2]); (try simp only [hl8_3]); (with_reducible repeat (first | apply Kd.R_alloc | apply Kd.R_drewN | apply Kd.R_drew)); exact HO_8.out⟩, ⟨by (try simp only [hl8_2]); (try simp only [hl8_3]); (with_reducible repeat (first | apply Kd.R_alloc | apply Kd.R_drewN | apply Kd.R_drew)); exact HO_10.out⟩, ⟨by (try simp only [hl8_2]); (try simp only [hl8_3]); (with_reducible repeat (first | refine blk_drewN ?_ _ | refine blk_drew ?_ | refine blk_alloc ?_ _)); exact BK569.out⟩, ⟨bel⟩⟩
                    ·
                     rw [if_neg c38] at H
                     exact absurd H (by simp)
                   ·
                    rw [if_neg c37] at H
                    exact absurd H (by simp)
                  ·
                   rw [if_neg c35] at H
                   exact absurd H (by simp)
                 ·
                  rw [if_neg c34] at H
                  exact absurd H (by simp)
                ·
                 rw [if_neg c33] at H
                 exact absurd H (by simp)
               ·
                rw [if_neg c32] at H
                have c32b0 : decide (x12_3 < (l0_1.length : Int)) = false := decide_eq_false c32
                try (have c32b0hl8_2 := c32b0; simp only [hl8_2] at c32b0hl8_2)
                try (have c32b0hl8_3 := c32b0; simp only [hl8_3] at c32b0hl8_3)
                clear c32
                have H' := Aside0.mk H
                clear H
                have hcz56_0 := blkc BK569.out 0 (.int .i64 a0_0) rfl
                have hcz56_1 := blkc BK569.out 1 (.slice A0_1 l0_1.length c0_1) rfl
                have hcz56_2 := blkc BK569.out 2 (.slice A0_2 l0_2.length c0_2) rfl
                have hfz56_0 := blk_frozen BK569.out 0
                have hfz56_1 := blk_frozen BK569.out 1
                have hfz56_2 := blk_frozen BK569.out 2
                go_wp2
                repeat (go_quiet (fail); try go_wp2)
                (try simp only [← hl8_2, ← hl8_3])
                go_roundg k3
                case measure => have := HK1.out; have := HK2.out; have := HK3.out; omega
                case rel => exact ⟨(x8_3), (x10_3), (wrap64 (x11_2 + 1)), rsz, H', ⟨by have := HK1.out; have := HK2.out; have := HK3.out; omega⟩, ⟨by (try simp only [hl8_2]); (try simp only [hl8_3]); (with_reducible repeat (first | apply Kd.R_alloc | apply Kd.R_drewN | apply Kd.R_drew)); exact HO_7.out⟩, ⟨by (try simp only [hl8_2]); (try simp only [hl8_3]); (with_reducible repeat (first | apply Kd.R_alloc | apply Kd.R_drewN | apply Kd.R_drew)); exact HO_8.out⟩, ⟨by (try simp only [hl8_2]); (try simp only [hl8_3]); (with_reducible repeat (first | apply Kd.R_alloc | apply Kd.R_drewN | apply Kd.R_drew)); exact HO_10.out⟩, ⟨by (try simp only [hl8_2]); (try simp only [hl8_3]); (with_reducible repeat (first | refine blk_drewN ?_ _ | refine blk_drew ?_ | refine blk_alloc ?_ _)); exact BK569.out⟩, ⟨bel⟩⟩
            ·
             rw [if_neg c30] at H
             have c30b0 : decide (x11_2 < (x10_2.length : Int)) = false := decide_eq_false c30
             try (have c30b0hl8_2 := c30b0; simp only [hl8_2] at c30b0hl8_2)
             clear c30
             obtain rfl := Option.some.inj H
             obtain ⟨Ao57, co57, eo57⟩ := Kd.R_slice HO_10.out
             subst eo57
             go_wp2
             repeat (go_quiet (fail); try go_wp2)
             go_ret
             exact ⟨_, ezz, by (with_reducible repeat (first | apply Kd.R_alloc | apply Kd.R_drewN | apply Kd.R_drew)); exact Kd.R_mono HO_8.out (fun _ hk => trivial), bel⟩
         ·
          rw [if_neg c23] at H
          exact absurd H (by simp)
        ·
         replace c22 := Bool.eq_false_iff.mpr c22
         subst c22
         have H1 : (some x8_1) = some r := by rw [if_neg (show ¬ (false = true) by decide)] at H; exact H
         clear H
         have H := H1
         clear H1
         obtain rfl := Option.some.inj H
         obtain ⟨Ao58, co58, eo58⟩ := Kd.R_slice HO_8.out
         subst eo58
         have p577 : 0 ≤ (a1 : Int) := of_decide_eq_true asz
         have q577 : a1 < (t570.length : Int) := of_decide_eq_true asz
         obtain ⟨ad577, e577, hx577_0⟩ := Kd.at_bool (Kd.R_reads' HO_7.out).2.2 a1 p577 q577
         (try rw [← Nbq21.out] at hx577_0)
         cases e577
         replace p577 := eq_true p577
         replace q577 := eq_true q577
         go_wp2
         repeat (go_quiet (fail); try go_wp2)
         go_ret
         exact ⟨_, ezz, by (with_reducible repeat (first | apply Kd.R_alloc | apply Kd.R_drewN | apply Kd.R_drew)); exact HO_8.out, bel⟩
       ·
        rw [if_neg c20] at H
        exact absurd H (by simp)
      ·
       rw [if_neg c19] at H
       exact absurd H (by simp)
  ·
   rw [if_neg c6] at H
   exact absurd H (by simp)
 ·
  rw [if_neg c5] at H
  exact absurd H (by simp)

/-! ### dropperref05_Reach: function 43 -/
def dropperref05_Reach.l0 : Nat → List Int → List Int → Int → Option (List Int × Int)
 | 0, _, _, _ => none
 | k + 1, x9, x10, x11 => if x11 < (x9.length : Int) then (if 0 ≤ x11 then (if (rd x9 x11) ≥ 0 then (if x10.length < 17592186044416 then (dropperref05_Reach.l0 k x9 (x10 ++ [x11]) (wrap64 (x11 + 1))) else (none)) else (dropperref05_Reach.l0 k x9 x10 (wrap64 (x11 + 1)))) else (none)) else (some (x10, 0))
def dropperref05_Reach.f (k : Nat) (a0_0 : Int) (l0_1 : List (S69)) (l0_2 : List (S71)) (a1 : Int) (l2 : List Int) : Option (List Int × Int) := (dropperref05_begun.f k a0_0 l0_1 l0_2 a1 l2).bind fun t750 => (if t750 = 0 then ((dropperref05_steps.f k a0_0 l0_1 l0_2 a1 l2).bind fun t751 => (dropperref05_Reach.l0 k t751 ([] : List Int) 0)) else (some (([] : List Int), t750)))
theorem dropperref05_Reach.mono_l : ∀ k, (∀ y0 y1 y2, LeO (dropperref05_Reach.l0 k y0 y1 y2) (dropperref05_Reach.l0 (k + 1) y0 y1 y2))
 | 0 => fun _ _ _ r h => by simp [dropperref05_Reach.l0] at h
 | k + 1 => by
  have ih0 := dropperref05_Reach.mono_l k
  ·
   intro y0 y1 y2
   unfold dropperref05_Reach.l0
   repeat' first
   | (with_reducible exact ih0 _ _ _)
   | (with_reducible exact dropperref05_begun.mono _ _ _ _ _ _)
   | (with_reducible exact dropperref05_steps.mono _ _ _ _ _ _)
   | (with_reducible exact LeO.refl _)
   | (with_reducible exact LeO.none _)
   | (with_reducible refine LeO.ite ?_ ?_)
   | (with_reducible refine LeO.bind ?_ (fun _ => ?_))
   | exact ih0 _ _ _
   | exact dropperref05_begun.mono _ _ _ _ _ _
   | exact dropperref05_steps.mono _ _ _ _ _ _
   | exact LeO.none _
   | refine LeO.ite ?_ ?_
   | refine LeO.bind ?_ (fun _ => ?_)
theorem dropperref05_Reach.mono : ∀ a0 a1 a2 a3 a4 k, LeO (dropperref05_Reach.f k a0 a1 a2 a3 a4) (dropperref05_Reach.f (k + 1) a0 a1 a2 a3 a4) := by
 intro a0 a1 a2 a3 a4 k
 have ih0 := dropperref05_Reach.mono_l k
 unfold dropperref05_Reach.f
 repeat' first
   | (with_reducible exact ih0 _ _ _)
   | (with_reducible exact dropperref05_begun.mono _ _ _ _ _ _)
   | (with_reducible exact dropperref05_steps.mono _ _ _ _ _ _)
   | (with_reducible exact LeO.refl _)
   | (with_reducible exact LeO.none _)
   | (with_reducible refine LeO.ite ?_ ?_)
   | (with_reducible refine LeO.bind ?_ (fun _ => ?_))
   | exact ih0 _ _ _
   | exact dropperref05_begun.mono _ _ _ _ _ _
   | exact dropperref05_steps.mono _ _ _ _ _ _
   | exact LeO.none _
   | refine LeO.ite ?_ ?_
   | refine LeO.bind ?_ (fun _ => ?_)
set_option maxHeartbeats 8000000 in
set_option maxRecDepth 100000 in
theorem dropperref05_Reach.calls (k : Nat) (a0_0 : Int) (A0_1 : Option Addr) (c0_1 : Nat) (l0_1 : List (S69)) (A0_2 : Option Addr) (c0_2 : Nat) (l0_2 : List (S71)) (a1 : Int) (A2 : Option Addr) (c2 : Nat) (l2 : List Int) (r1 : List Int) (r2 : Int) (w : World) (hr0_1 : Kd.C k69 w A0_1 l0_1.length l0_1) (hc0_1 : l0_1.length ≤ c0_1) (hr0_2 : Kd.C k71 w A0_2 l0_2.length l0_2) (hc0_2 : l0_2.length ≤ c0_2) (hr2 : Kd.C (Kd.int .i64) w A2 l2.length l2) (hc2 : l2.length ≤ c2) (h : dropperref05_Reach.f k a0_0 l0_1 l0_2 a1 l2 = some (r1, r2)) :
  Calls Tryd.prog 43 #[.agg #[.int .i64 a0_0, .slice A0_1 l0_1.length c0_1, .slice A0_2 l0_2.length c0_2], .int .i64 a1, .slice A2 l2.length c2] w fun e w' => ∃ v0_ : Value, e = .returned (.tuple #[v0_, .int .i64 r2]) ∧ Kd.R (Kd.int .i64) 3 w' w.heap.size (fun _ => True) v0_ r1 ∧ Below w.heap.size w w' := by
 have hu25 := Tryd.underlying25
 have HR0_1 := Aside0.mk hr0_1
 have HC0_1 := Aside0.mk hc0_1
 clear hr0_1 hc0_1
 have HR0_2 := Aside0.mk hr0_2
 have HC0_2 := Aside0.mk hc0_2
 clear hr0_2 hc0_2
 have HR2 := Aside0.mk hr2
 have HC2 := Aside0.mk hc2
 clear hr2 hc2
 have HB := Aside0.mk (Below.refl w.heap.size w)
 have H : ((dropperref05_begun.f k a0_0 l0_1 l0_2 a1 l2).bind fun t750 => (if t750 = 0 then ((dropperref05_steps.f k a0_0 l0_1 l0_2 a1 l2).bind fun t751 => (dropperref05_Reach.l0 k t751 ([] : List Int) 0)) else (some (([] : List Int), t750)))) = some (r1, r2) := h
 clear h
 replace H := Option.bind_eq_some_iff.mp H
 obtain ⟨t750, A40, H⟩ := H
 replace H : (if t750 = 0 then ((dropperref05_steps.f k a0_0 l0_1 l0_2 a1 l2).bind fun t751 => (dropperref05_Reach.l0 k t751 ([] : List Int) 0)) else (some (([] : List Int), t750))) = some (r1, r2) := H
 have A4 := Aside0.mk A40
 clear A40
 by_cases c5 : t750 = 0
 ·
  rw [if_pos c5] at H
  have c5b0 : (t750 == 0) = true := beq_iff_eq.mpr c5
  have c5b1 : (t750 != 0) = false := bne_eq_false_iff_eq.mpr c5
  clear c5
  replace H := Option.bind_eq_some_iff.mp H
  obtain ⟨t751, A60, H⟩ := H
  replace H : (dropperref05_Reach.l0 k t751 ([] : List Int) 0) = some (r1, r2) := H
  have A6 := Aside0.mk A60
  clear A60
  have H' := Aside0.mk H
  clear H
  go_enter Tryd.func43, Tryd.ntmps43
  go_wp2_with (first | ((with_reducible refine gate_dst (N := 3) rfl ?_); refine box_event ?hg (N := 3) ?hd (cs := #[.int .i64 a0_0, .slice A0_1 l0_1.length c0_1, .slice A0_2 l0_2.length c0_2]) (t := 25) ?hr ?_; (case hd => rfl); (case hg => rfl); (case hr => first | (go_simp; done) | (go_simp; rfl)); intro gb749 hg w7 hbox hb; have BK749 := Aside0.mk (hbox); have GW749 := bsz (w := w) hg; have GE749 := GW749; replace HB := Aside0.mk (below_step bel hb); clear hb hbox hg; have hcz8_0 := blkc BK749.out 0 (.int .i64 a0_0) rfl; have hcz8_1 := blkc BK749.out 1 (.slice A0_1 l0_1.length c0_1) rfl; have hcz8_2 := blkc BK749.out 2 (.slice A0_2 l0_2.length c0_2) rfl) | ((with_reducible refine gate_callee (f := 72) rfl ?_); refine goesL_ (some 15) rfl rfl Tryd.func72 (by kernel_rfl) rfl #[.agg #[.int .i64 a0_0, .slice A0_1 l0_1.length c0_1, .slice A0_2 l0_2.length c0_2], .int .i64 a1, .slice A2 l2.length c2] rfl mapz ?_; (with_reducible refine (dropperref05_begun.calls k a0_0 _ _ l0_1 _ _ l0_2 a1 _ _ l2 t750 _ ?side1 ?side2 ?side3 ?side4 ?side5 ?side6 A4.out).mono ?_); (case side1 => exact cbz HR0_1); (case side2 => exact HC0_1.out); (case side3 => exact cbz HR0_2); (case side4 => exact HC0_2.out); (case side5 => exact cbz HR2); (case side6 => exact HC2.out); rintro e w9 ⟨rfl, hb⟩; refine ⟨_, rfl, ?_⟩; replace BK749 := Aside0.mk (blk_below (g := gb749) blkz hb); replace HB := Aside0.mk (below_step bel hb); (try clear hb); (try clear hb2); (try clear hk); (try clear hi); have hcz10_0 := blkc BK749.out 0 (.int .i64 a0_0) rfl; have hcz10_1 := blkc BK749.out 1 (.slice A0_1 l0_1.length c0_1) rfl; have hcz10_2 := blkc BK749.out 2 (.slice A0_2 l0_2.length c0_2) rfl) | ((with_reducible refine gate_callee (f := 77) rfl ?_); refine goesL_ (some 22) rfl rfl Tryd.func77 (by kernel_rfl) rfl #[.agg #[.int .i64 a0_0, .slice A0_1 l0_1.length c0_1, .slice A0_2 l0_2.length c0_2], .int .i64 a1, .slice A2 l2.length c2] rfl mapz ?_; (with_reducible refine (dropperref05_steps.calls k a0_0 _ _ l0_1 _ _ l0_2 a1 _ _ l2 t751 _ ?side1 ?side2 ?side3 ?side4 ?side5 ?side6 A6.out).mono ?_); (case side1 => exact cbz HR0_1); (case side2 => exact HC0_1.out); (case side3 => exact cbz HR0_2); (case side4 => exact HC0_2.out); (case side5 => exact cbz HR2); (case side6 => exact HC2.out); rintro e w11 ⟨v752, rfl, ho0, hb⟩; refine ⟨_, rfl, ?_⟩; have HO753 := Aside0.mk (Kd.R_lower ho0 (below_size bel)); replace BK749 := Aside0.mk (blk_below (g := gb749) blkz hb); replace HB := Aside0.mk (below_step bel hb); (try clear hb); (try clear hb2); (try clear hk); (try clear hi); (try clear ho0)))
  go_loopg [10, 11] k (fun kq v10 v11 w' => ∃ (x10_1 : List Int) (x11_1 : Int), v11 = .int .i64 x11_1 ∧ Aside0 (dropperref05_Reach.l0 kq t751 x10_1 x11_1 = some (r1, r2)) ∧ Aside0 (kq ≤ k) ∧ Aside0 (Kd.R (Kd.int .i64) 3 w' w.heap.size (fun k_ => some k_ ≠ (v10 : Value).ownBlock) v752 t751) ∧ Aside0 (Kd.R (Kd.int .i64) 3 w' w.heap.size (fun k_ => some k_ ≠ (v752 : Value).ownBlock) v10 x10_1) ∧ Aside0 (w'.heap[gb749]? = some (.cells #[.int .i64 a0_0, (.slice A0_1 l0_1.length c0_1), (.slice A0_2 l0_2.length c0_2)] 25 (0, 0))) ∧ Aside0 (Below w.heap.size w w'))
  case atStart => exact ⟨(([] : List Int)), (0), rsz, H', ⟨Nat.le_refl _⟩, ⟨by (with_reducible repeat (first | apply Kd.R_alloc | apply Kd.R_drewN | apply Kd.R_drew)); exact Kd.R_mono HO753.out (fun _ hk => (by simp [Value.ownBlock]))⟩, ⟨by first | exact Kd.R_nil _ _ _ _ _ | exact Kd.N_nil _ _ _ _ _ | exact Kd.V_nil _ _ _ _ _ | exact Kd.Q_nil _ _ _ _ _ | exact Kd.S_nil _ _ _ _ _⟩, ⟨blkz⟩, ⟨bel⟩⟩
  case round =>
   clear H'
   try clear c2
   try clear p2
   try clear c4
   try clear c5
   try clear c5b0
   try clear c5b1
   try clear c7
   try clear hcz10_0
   try clear hcz10_1
   try clear hcz10_2
   try clear hcz8_0
   try clear hcz8_1
   try clear hcz8_2
   try clear hfz10_0
   try clear hfz10_1
   try clear hfz10_2
   try clear hfz8_0
   try clear hfz8_1
   try clear hfz8_2
   obtain ⟨x10_1, x11_1, rfl, HA, HK1, HO_9, HO_10, BK749, HB⟩ := hrel
   cases gk with
   | zero => exact absurd HA.out (by simp [dropperref05_Reach.l0])
   | succ k1 =>
    have H := HA.out
    clear HA
    simp only [dropperref05_Reach.l0] at H
    by_cases c12 : x11_1 < (t751.length : Int)
    ·
     rw [if_pos c12] at H
     have c12b0 : decide (x11_1 < (t751.length : Int)) = true := decide_eq_true c12
     clear c12
     by_cases c13 : 0 ≤ x11_1
     ·
      rw [if_pos c13] at H
      have c13b0 : decide (0 ≤ x11_1) = true := decide_eq_true c13
      clear c13
      by_cases c14 : (rd t751 x11_1) ≥ 0
      ·
       rw [if_pos c14] at H
       have c14b0 : decide (0 ≤ (rd t751 x11_1)) = true := decide_eq_true c14
       clear c14
       by_cases c15 : x10_1.length < 17592186044416
       ·
        rw [if_pos c15] at H
        have LMc15 := Aside0.mk c15
        clear c15
        obtain ⟨y755, hy755⟩ : ∃ y_ : List Int, y_ = (x10_1 ++ [x11_1]) := ⟨_, rfl⟩
        replace H : (dropperref05_Reach.l0 k1 t751 y755 (wrap64 (x11_1 + 1))) = some (r1, r2) := by first | (rw [hy755]; with_reducible exact H) | (have H2_ := (Option.bind_some _ _).symm.trans H; rw [hy755]; with_reducible exact H2_) | (have H2_ := (Option.bind_some _ _).symm.trans H; with_reducible exact H2_) | with_reducible exact H | (rw [hy755]; exact H) | exact H
        have Ny755 := Aside0.mk hy755
        clear hy755
        have H' := Aside0.mk H
        clear H
        obtain ⟨Ao16, co16, eo16⟩ := Kd.R_slice HO_9.out
        subst eo16
        have p754 : 0 ≤ (x11_1 : Int) := of_decide_eq_true asz
        have q754 : x11_1 < (t751.length : Int) := of_decide_eq_true asz
        obtain ⟨ad754, e754, hx754_0⟩ := Kd.at_int (Kd.R_reads' HO_9.out).2.2 x11_1 p754 q754
        cases e754
        replace p754 := eq_true p754
        replace q754 := eq_true q754
        go_wp2_with (first | ((with_reducible refine gate_builtin (b := .append) (xs := #[.tmp 34, .tmp 36]) rfl ?_); at_builtin; refine Kd.R_append (Kd.int .i64) (w0 := w) w.heap.size rfl (.tmp 34) (.tmp 36) 28 3 (.int .i64 0) 8 rfl Tryd.underlying28 info3 rfl (by decide) (by omega) u10 x10_1 x11_1 [.int .i64 x11_1] (fun k_ => some k_ ≠ (.slice (some ad754) t751.length co16 : Value).ownBlock) (fun _ => False) rfl rfl ?aP (fun _ hk => hk.elim) ?aF ?aO ?aB ?aS ?aL ?_; (case aP => exact rfl); (case aB => exact bel); (case aF => exact (fun k_ hk => Kd.fresh' (Kd.R_lt (ownx HO_9)) k_ hk)); (case aO => exact (ownx HO_10)); (case aS => exact (below_size bel)); (case aL => have := LMc15.out; omega); intro v756 w17 ho hb hg hat; rw [← Ny755.out] at ho; have n0_ := Aside0.mk (Kd.R_after (ok := (fun _ => True)) (by (with_reducible repeat (first | apply Kd.R_alloc | apply Kd.R_drewN | apply Kd.R_drew)); exact Kd.R_mono HO_9.out (fun _ hk => ⟨trivial, hk⟩)) hg hat); have n1_ := Aside0.mk (blk_grown (g := gb749) (o := .cells #[.int .i64 a0_0, .slice A0_1 l0_1.length c0_1, .slice A0_2 l0_2.length c0_2] 25 (0, 0)) blkz hg (Kd.R_ne HO_10.out BK749.out (by decide))); have n2_ := Aside0.mk (hb); have n3_ := Aside0.mk (ho); clear HO_9; clear BK749; clear HB; clear HO_10; have HO_9 := n0_; have BK749 := n1_; have HB := n2_; have HO757 := n3_; clear n0_ n1_ n2_ n3_; clear ho hb hg hat))
        go_roundg k1
        case measure => have := HK1.out; omega
        case rel => exact ⟨(y755), (wrap64 (x11_1 + 1)), rsz, H', ⟨by have := HK1.out; omega⟩, ⟨by (with_reducible repeat (first | apply Kd.R_alloc | apply Kd.R_drewN | apply Kd.R_drew)); exact Kd.R_mono HO_9.out (fun _ hk => hk.2)⟩, ⟨by (with_reducible repeat (first | apply Kd.R_alloc | apply Kd.R_drewN | apply Kd.R_drew)); exact HO757.out⟩, ⟨blkz⟩, ⟨bel⟩⟩
       ·
        rw [if_neg c15] at H
        exact absurd H (by simp)
      ·
       rw [if_neg c14] at H
       have c14b0 : decide (0 ≤ (rd t751 x11_1)) = false := decide_eq_false c14
       clear c14
       have H' := Aside0.mk H
       clear H
       obtain ⟨Ao18, co18, eo18⟩ := Kd.R_slice HO_9.out
       subst eo18
       have p754 : 0 ≤ (x11_1 : Int) := of_decide_eq_true asz
       have q754 : x11_1 < (t751.length : Int) := of_decide_eq_true asz
       obtain ⟨ad754, e754, hx754_0⟩ := Kd.at_int (Kd.R_reads' HO_9.out).2.2 x11_1 p754 q754
       cases e754
       replace p754 := eq_true p754
       replace q754 := eq_true q754
       go_wp2
       go_roundg k1
       case measure => have := HK1.out; omega
       case rel => exact ⟨(x10_1), (wrap64 (x11_1 + 1)), rsz, H', ⟨by have := HK1.out; omega⟩, ⟨by (with_reducible repeat (first | apply Kd.R_alloc | apply Kd.R_drewN | apply Kd.R_drew)); exact HO_9.out⟩, ⟨by (with_reducible repeat (first | apply Kd.R_alloc | apply Kd.R_drewN | apply Kd.R_drew)); exact HO_10.out⟩, ⟨blkz⟩, ⟨bel⟩⟩
     ·
      rw [if_neg c13] at H
      exact absurd H (by simp)
    ·
     rw [if_neg c12] at H
     have c12b0 : decide (x11_1 < (t751.length : Int)) = false := decide_eq_false c12
     clear c12
     simp only [Option.some.injEq, Prod.mk.injEq] at H
     obtain ⟨rfl, rfl⟩ := H
     obtain ⟨Ao19, co19, eo19⟩ := Kd.R_slice HO_9.out
     subst eo19
     go_wp2
     go_ret2
     exact ⟨_, ezz, by (with_reducible repeat (first | apply Kd.R_alloc | apply Kd.R_drewN | apply Kd.R_drew)); exact Kd.R_mono HO_10.out (fun _ hk => trivial), bel⟩
 ·
  rw [if_neg c5] at H
  have c5b0 : (t750 == 0) = false := beq_eq_false_iff_ne.mpr c5
  have c5b1 : (t750 != 0) = true := bne_iff_ne.mpr c5
  simp only [Option.some.injEq, Prod.mk.injEq] at H
  obtain ⟨rfl, rfl⟩ := H
  go_enter Tryd.func43, Tryd.ntmps43
  go_wp2_with (first | ((with_reducible refine gate_dst (N := 3) rfl ?_); refine box_event ?hg (N := 3) ?hd (cs := #[.int .i64 a0_0, .slice A0_1 l0_1.length c0_1, .slice A0_2 l0_2.length c0_2]) (t := 25) ?hr ?_; (case hd => rfl); (case hg => rfl); (case hr => first | (go_simp; done) | (go_simp; rfl)); intro gb749 hg w20 hbox hb; have BK749 := Aside0.mk (hbox); have GW749 := bsz (w := w) hg; have GE749 := GW749; replace HB := Aside0.mk (below_step bel hb); clear hb hbox hg; have hcz21_0 := blkc BK749.out 0 (.int .i64 a0_0) rfl; have hcz21_1 := blkc BK749.out 1 (.slice A0_1 l0_1.length c0_1) rfl; have hcz21_2 := blkc BK749.out 2 (.slice A0_2 l0_2.length c0_2) rfl) | ((with_reducible refine gate_callee (f := 72) rfl ?_); refine goesL_ (some 15) rfl rfl Tryd.func72 (by kernel_rfl) rfl #[.agg #[.int .i64 a0_0, .slice A0_1 l0_1.length c0_1, .slice A0_2 l0_2.length c0_2], .int .i64 a1, .slice A2 l2.length c2] rfl mapz ?_; (with_reducible refine (dropperref05_begun.calls k a0_0 _ _ l0_1 _ _ l0_2 a1 _ _ l2 t750 _ ?side1 ?side2 ?side3 ?side4 ?side5 ?side6 A4.out).mono ?_); (case side1 => exact cbz HR0_1); (case side2 => exact HC0_1.out); (case side3 => exact cbz HR0_2); (case side4 => exact HC0_2.out); (case side5 => exact cbz HR2); (case side6 => exact HC2.out); rintro e w22 ⟨rfl, hb⟩; refine ⟨_, rfl, ?_⟩; replace BK749 := Aside0.mk (blk_below (g := gb749) blkz hb); replace HB := Aside0.mk (below_step bel hb); (try clear hb); (try clear hb2); (try clear hk); (try clear hi)))
  go_ret2
  exact ⟨_, ezz, by first | exact Kd.R_nil _ _ _ _ _ | exact Kd.N_nil _ _ _ _ _ | exact Kd.V_nil _ _ _ _ _ | exact Kd.Q_nil _ _ _ _ _ | exact Kd.S_nil _ _ _ _ _, bel⟩

/-! ### feed_IsShut: function 44 -/
theorem feed_IsShut.hold {P : World → Prop} (w : World) (Q : World → Prop) (hq : Q w) (h : ∀ w', Q w' → P w') : P w := h w hq
theorem feed_IsShut.index_l0 (l : List Int) (hl : l.length ≤ 9223372036854775807) (v : Int) : ∀ (d i : Nat), i + d = l.length → (∀ j (h : j < l.length), j < i → l[j] ≠ v) →
  ∃ (r : Int) (K : Nat), slices_Index_int_int.l0 K l v (l.length : Int) (i : Int) = some r ∧ (0 ≤ r ↔ v ∈ l) := by
 intro d
 induction d with
 | zero =>
  intro i hi hb
  refine ⟨-1, 1, ?_, ?_⟩
  ·
   rw [slices_Index_int_int.l0, if_neg (by omega)]
  ·
   constructor
   ·
    intro h; omega
   ·
    intro h
    obtain ⟨j, hj, e⟩ := List.mem_iff_getElem.1 h
    exact absurd e (hb j hj (by omega))
 | succ d ih =>
  intro i hi hb
  have hlt : i < l.length := by omega
  have hr : rd l (i : Int) = l[i] := by simp [rd, List.getD_eq_getElem?_getD, hlt]
  by_cases he : v = l[i]
  ·
   refine ⟨i, 1, ?_, fun _ => he ▸ List.getElem_mem hlt, fun _ => by omega⟩
   rw [slices_Index_int_int.l0, hr, if_pos (by omega), if_pos (by omega), if_pos (by omega), if_pos he]
  ·
   obtain ⟨r, K, h1, h2⟩ := ih (i + 1) (by omega) (fun j hj hji => by
    by_cases h : j < i
    ·
     exact hb j hj h
    ·
     obtain rfl : j = i := by omega
     exact fun e => he e.symm)
   refine ⟨r, K + 1, ?_, h2⟩
   have hw : wrap64 ((i : Int) + 1) = ((i + 1 : Nat) : Int) := by unfold wrap64; omega
   rw [slices_Index_int_int.l0, hr, hw, if_pos (by omega), if_pos (by omega), if_pos (by omega), if_neg he, h1]
theorem feed_IsShut.contains (l : List Int) (hl : l.length ≤ 9223372036854775807) (v : Int) : ∃ K, slices_Contains_int_int.f K l v = some (decide (v ∈ l)) := by
 obtain ⟨r, K, h1, h2⟩ := feed_IsShut.index_l0 l hl v l.length 0 (by omega) (fun j h hj => by omega)
 refine ⟨K, ?_⟩
 unfold slices_Contains_int_int.f slices_Index_int_int.f
 have h3 : slices_Index_int_int.l0 K l v (l.length : Int) 0 = some r := h1
 rw [h3]
 show some _ = some _
 congr 1
 rw [decide_eq_decide]
 exact h2
def feed_IsShut.p (l : List Int) (x : Int) : Bool := decide (0 ≤ x) && !decide (x ∈ l)
set_option maxHeartbeats 2000000 in
set_option maxRecDepth 100000 in
theorem feed_IsShut.clos (l : List Int) (g : Nat) (A : Option Addr) (c : Nat) (x : Int) (w : World) (hcap : w.cell? ⟨g, 0, none⟩ = some (.slice A l.length c)) (hC : Kd.C (Kd.int .i64) w A l.length l) (hc : l.length ≤ c) :
  Calls Tryd.prog 87 #[.int .i64 x, .pointer (some ⟨g, 0, none⟩)] w fun e w' => e = .returned (.bool (feed_IsShut.p l x)) ∧ Below w.heap.size w w' := by
 obtain ⟨K, hK⟩ := feed_IsShut.contains l hC.2.1 x
 have HK := Aside0.mk hK
 have HC := Aside0.mk hC
 clear hK hC
 by_cases h0 : 0 ≤ x
 ·
  have b0 : decide (x ≥ 0) = true := decide_eq_true h0
  have hE : feed_IsShut.p l x = !decide (x ∈ l) := by unfold feed_IsShut.p; rw [decide_eq_true h0, Bool.true_and]
  rw [hE]
  clear h0 hE
  go_enter Tryd.func87, Tryd.ntmps87
  go_wp2_with (first | (go_at_call 68; (with_reducible refine (slices_Contains_int_int.calls K A c l x _ _ ?c1 hc HK.out).mono ?_); (case c1 => exact HC.out); rintro e w' ⟨rfl, ⟨nd_, rfl⟩⟩))
  go_ret
  exact ⟨rfl, by repeat (first | exact Below.refl _ _ | apply pw_below_drewN)⟩
 ·
  have b0 : decide (x ≥ 0) = false := decide_eq_false h0
  have hE : feed_IsShut.p l x = false := by unfold feed_IsShut.p; rw [decide_eq_false h0, Bool.false_and]
  rw [hE]
  clear h0 hE
  go_enter Tryd.func87, Tryd.ntmps87
  go_wp2
  go_ret
  exact ⟨rfl, by repeat (first | exact Below.refl _ _ | apply pw_below_drewN)⟩
theorem feed_IsShut.enter (vs : Array Value) (W : World) : (callFunc 87 vs).run Tryd.prog W = .ok (.enter 87 vs) W := enters_ Tryd.func87 (by kernel_rfl) (by kernel_rfl) vs W
def feed_IsShut.before (p : Option Int) (s : Int) : Bool := match p with | none => false | some q => decide (s ≤ q)
def feed_IsShut.go1 (k : Nat) (a0_0 : Int) (l0_1 : List S69) (l0_2 : List S71) (l3 : List Int) (ta : Int) : Option Int → List Int → Option Bool
 | _, [] => some true
 | p, s :: t => (feed_within.f 0 s (wrap64 (ta - 1))).bind fun c => if c = true then (if feed_IsShut.before p s = true then some false else ((feed_rule_keeps.f k a0_0 l0_1 l0_2 l3 s).bind fun b => if b = true then feed_IsShut.go1 k a0_0 l0_1 l0_2 l3 ta (some s) t else some false)) else some false
def feed_IsShut.go2 (k : Nat) (a0_0 : Int) (l0_1 : List S69) (l0_2 : List S71) (l3 l4 : List Int) : List Int → Option Bool
 | [] => some true
 | s :: t => (feed_rule_steps.f k a0_0 l0_1 l0_2 l3 s).bind fun st => if st.any (feed_IsShut.p l4) = true then some false else feed_IsShut.go2 k a0_0 l0_1 l0_2 l3 l4 t
def feed_IsShut.f (k : Nat) (a0_0 : Int) (l0_1 : List S69) (l0_2 : List S71) (l3 l4 : List Int) : Option (Bool × Int) :=
 (feed_Valid.f a0_0 l0_1 l0_2).bind fun v => if v = true then ((feed_rule_kept.f k a0_0 l0_1 l0_2 l3).bind fun e => if e = 0 then ((feed_grid_all.f a0_0 l0_1 l0_2).bind fun ta => (feed_IsShut.go1 k a0_0 l0_1 l0_2 l3 ta none l4).bind fun ok => if ok = true then ((feed_IsShut.go2 k a0_0 l0_1 l0_2 l3 l4 l4).bind fun b => some (b, 0)) else some (false, 0)) else some (false, e)) else some (false, 50)
theorem feed_IsShut.mono1 (k : Nat) (a0 : Int) (a1 : List S69) (a2 : List S71) (a3 : List Int) (ta : Int) : ∀ l p, LeO (feed_IsShut.go1 k a0 a1 a2 a3 ta p l) (feed_IsShut.go1 (k + 1) a0 a1 a2 a3 ta p l)
 | [], _ => LeO.refl _
 | s :: t, p => by
  rw [feed_IsShut.go1, feed_IsShut.go1]
  exact LeO.bind (LeO.refl _) (fun c => LeO.ite (LeO.ite (LeO.refl _) (LeO.bind (feed_rule_keeps.mono _ _ _ _ _ k) (fun b => LeO.ite (feed_IsShut.mono1 k a0 a1 a2 a3 ta t _) (LeO.refl _)))) (LeO.refl _))
theorem feed_IsShut.mono2 (k : Nat) (a0 : Int) (a1 : List S69) (a2 : List S71) (a3 a4 : List Int) : ∀ l, LeO (feed_IsShut.go2 k a0 a1 a2 a3 a4 l) (feed_IsShut.go2 (k + 1) a0 a1 a2 a3 a4 l)
 | [] => LeO.refl _
 | s :: t => by
  rw [feed_IsShut.go2, feed_IsShut.go2]
  exact LeO.bind (feed_rule_steps.mono _ _ _ _ _ k) (fun b => LeO.ite (LeO.refl _) (feed_IsShut.mono2 k a0 a1 a2 a3 a4 t))
theorem feed_IsShut.mono : ∀ a0 a1 a2 a3 a4 k, LeO (feed_IsShut.f k a0 a1 a2 a3 a4) (feed_IsShut.f (k + 1) a0 a1 a2 a3 a4) := by
 intro a0 a1 a2 a3 a4 k
 unfold feed_IsShut.f
 exact LeO.bind (LeO.refl _) (fun v => LeO.ite (LeO.bind (feed_rule_kept.mono _ _ _ _ k) (fun e => LeO.ite (LeO.bind (LeO.refl _) (fun ta => LeO.bind (feed_IsShut.mono1 _ _ _ _ _ _ _ _) (fun ok => LeO.ite (LeO.bind (feed_IsShut.mono2 _ _ _ _ _ _ _) (fun _ => LeO.refl _)) (LeO.refl _)))) (LeO.refl _))) (LeO.refl _))
def feed_IsShut.prev (l : List Int) (x : Int) : Option Int := if 0 < x then some (rd l (x - 1)) else none
set_option maxHeartbeats 16000000 in
set_option maxRecDepth 100000 in
theorem feed_IsShut.calls (k : Nat) (a0_0 : Int) (A0_1 : Option Addr) (c0_1 : Nat) (l0_1 : List S69) (A0_2 : Option Addr) (c0_2 : Nat) (l0_2 : List S71) (A3 : Option Addr) (c3 : Nat) (l3 : List Int) (A4 : Option Addr) (c4 : Nat) (l4 : List Int) (r1 : Bool) (r2 : Int) (w : World) (hr0_1 : Kd.C k69 w A0_1 l0_1.length l0_1) (hc0_1 : l0_1.length ≤ c0_1) (hr0_2 : Kd.C k71 w A0_2 l0_2.length l0_2) (hc0_2 : l0_2.length ≤ c0_2) (hr3 : Kd.C (Kd.int .i64) w A3 l3.length l3) (hc3 : l3.length ≤ c3) (hr4 : Kd.C (Kd.int .i64) w A4 l4.length l4) (hc4 : l4.length ≤ c4) (hT : Tab.Tabs w) (h : feed_IsShut.f k a0_0 l0_1 l0_2 l3 l4 = some (r1, r2)) :
  Calls Tryd.prog 44 #[.agg #[.int .i64 a0_0, .slice A0_1 l0_1.length c0_1, .slice A0_2 l0_2.length c0_2], .slice A3 l3.length c3, .slice A4 l4.length c4] w fun e w' => e = .returned (.tuple #[.bool r1, .int .i64 r2]) ∧ Below w.heap.size w w' := by
 have HT := Aside0.mk hT
 have hu1 := Tryd.underlying25
 have hu2 := Tryd.underlying73
 have hu3 := Tryd.underlying96
 have HR0_1 := Aside0.mk hr0_1
 have HR0_2 := Aside0.mk hr0_2
 have HC0_1 := Aside0.mk hc0_1
 have HC0_2 := Aside0.mk hc0_2
 have HR3 := Aside0.mk hr3
 have HC3 := Aside0.mk hc3
 have HR4 := Aside0.mk hr4
 have HC4 := Aside0.mk hc4
 have HL4 := Aside0.mk hr4.2.1
 have HB := Aside0.mk (Below.refl w.heap.size w)
 clear hr0_1 hr0_2 hr3 hr4 hT hc0_1 hc0_2 hc3 hc4
 unfold feed_IsShut.f at h
 obtain ⟨v, A10, H⟩ := Option.bind_eq_some_iff.mp h
 have E1 := Aside0.mk A10
 clear h A10
 have HH := Aside0.mk H
 clear H
 go_enter Tryd.func44, Tryd.ntmps44
 go_upto_region 2 with (first | ((with_reducible refine gate_dst (N := 3) rfl ?_); refine box_event ?hg (N := 3) ?hd (cs := #[.int .i64 a0_0, .slice A0_1 l0_1.length c0_1, .slice A0_2 l0_2.length c0_2]) (t := 25) ?hr ?_; (case hd => rfl); (case hg => rfl); (case hr => first | (go_simp; done) | (go_simp; rfl)); intro g1 hg wx hbox hb; have BKg1 := Aside0.mk (hbox); have GWg1 := bsz (w := w) hg; replace HB := Aside0.mk (below_step bel hb); clear hb hbox hg) | ((with_reducible refine gate_dst (N := 5) rfl ?_); refine box_event ?hg (N := 5) ?hd (cs := #[.slice A4 l4.length c4]) (t := 28) ?hr ?_; (case hd => rfl); (case hg => rfl); (case hr => first | (go_simp; done) | (go_simp; rfl)); intro g5 hg wx hbox hb; have BKg5 := Aside0.mk (hbox); have GWg5 := bsz (w := w) hg; have NB15 := neL (g := g1) hg; have NB51 := neR (g := g1) hg; replace BKg1 := Aside0.mk (blk_below (g := g1) blkz hb); replace HB := Aside0.mk (below_step bel hb); clear hb hbox hg; have hnb1 := NB51.out; have hnb2 := NB15.out; have kg1_0 := blkc BKg1.out 0 (.int .i64 a0_0) rfl; have kg1_1 := blkc BKg1.out 1 (.slice A0_1 l0_1.length c0_1) rfl; have kg1_2 := blkc BKg1.out 2 (.slice A0_2 l0_2.length c0_2) rfl) | ((with_reducible refine gate_dst (N := 8) rfl ?_); refine box_event ?hg (N := 8) ?hd (cs := #[.int .i64 0, .slice none 0 0, .slice none 0 0, .slice none 0 0]) (t := 96) ?hr ?_; (case hd => rfl); (case hg => rfl); (case hr => first | (go_simp; done) | (go_simp; rfl)); intro g2 hg wx hbox hb; have BKg2 := Aside0.mk (hbox); have GWg2 := bsz (w := w) hg; have NB12 := neL (g := g1) hg; have NB21 := neR (g := g1) hg; have NB52 := neL (g := g5) hg; have NB25 := neR (g := g5) hg; replace BKg1 := Aside0.mk (blk_below (g := g1) blkz hb); replace BKg5 := Aside0.mk (blk_below (g := g5) blkz hb); replace HB := Aside0.mk (below_step bel hb); clear hb hbox hg; have hnb3 := NB21.out; have hnb4 := NB12.out; have hnb5 := NB25.out; have hnb6 := NB52.out; have kg2_0 := blkc BKg2.out 0 (.int .i64 0) rfl; have fg2_0 := blk_frozen BKg2.out 0; have kg2_1 := blkc BKg2.out 1 (.slice none 0 0) rfl; have fg2_1 := blk_frozen BKg2.out 1; have kg2_2 := blkc BKg2.out 2 (.slice none 0 0) rfl; have fg2_2 := blk_frozen BKg2.out 2; have kg2_3 := blkc BKg2.out 3 (.slice none 0 0) rfl; have fg2_3 := blk_frozen BKg2.out 3))
 (try simp only [Act.put, List.setIfInBounds_toArray, List.set_cons_zero, List.set_cons_succ])
 refine feed_IsShut.hold (P := fun W => Code.wp _ _ _ _ W) _ (fun W => Aside0 (W.heap[g1]? = some (.cells #[.int .i64 a0_0, .slice A0_1 l0_1.length c0_1, .slice A0_2 l0_2.length c0_2] 25 (0, 0))) ∧ Aside0 (W.heap[g5]? = some (.cells #[.slice A4 l4.length c4] 28 (0, 0))) ∧ Aside0 (W.heap[g2]? = some (.cells #[.int .i64 a0_0, .slice A0_1 l0_1.length c0_1, .slice A0_2 l0_2.length c0_2, .slice A3 l3.length c3] 96 (0, 0))) ∧ Aside0 (Below w.heap.size w W)) ⟨⟨(by (with_reducible repeat (first | refine blk_drewN ?_ _ | refine blk_drew ?_ | refine blk_alloc ?_ _)); refine blk_far ?_ NB12.out _; (with_reducible repeat (first | refine blk_drewN ?_ _ | refine blk_drew ?_ | refine blk_alloc ?_ _)); refine blk_far ?_ NB12.out _; (with_reducible repeat (first | refine blk_drewN ?_ _ | refine blk_drew ?_ | refine blk_alloc ?_ _)); refine blk_far ?_ NB12.out _; (with_reducible repeat (first | refine blk_drewN ?_ _ | refine blk_drew ?_ | refine blk_alloc ?_ _)); refine blk_far ?_ NB12.out _; (with_reducible repeat (first | refine blk_drewN ?_ _ | refine blk_drew ?_ | refine blk_alloc ?_ _)); exact BKg1.out)⟩, ⟨(by (with_reducible repeat (first | refine blk_drewN ?_ _ | refine blk_drew ?_ | refine blk_alloc ?_ _)); refine blk_far ?_ NB52.out _; (with_reducible repeat (first | refine blk_drewN ?_ _ | refine blk_drew ?_ | refine blk_alloc ?_ _)); refine blk_far ?_ NB52.out _; (with_reducible repeat (first | refine blk_drewN ?_ _ | refine blk_drew ?_ | refine blk_alloc ?_ _)); refine blk_far ?_ NB52.out _; (with_reducible repeat (first | refine blk_drewN ?_ _ | refine blk_drew ?_ | refine blk_alloc ?_ _)); refine blk_far ?_ NB52.out _; (with_reducible repeat (first | refine blk_drewN ?_ _ | refine blk_drew ?_ | refine blk_alloc ?_ _)); exact BKg5.out)⟩, ⟨(by (with_reducible repeat (first | refine blk_drewN ?_ _ | refine blk_drew ?_ | refine blk_alloc ?_ _)); refine blk_put (cs := #[.int .i64 a0_0, .slice A0_1 l0_1.length c0_1, .slice A0_2 l0_2.length c0_2, .slice none 0 0]) ?_ 3 _ rfl; (with_reducible repeat (first | refine blk_drewN ?_ _ | refine blk_drew ?_ | refine blk_alloc ?_ _)); refine blk_put (cs := #[.int .i64 a0_0, .slice A0_1 l0_1.length c0_1, .slice none 0 0, .slice none 0 0]) ?_ 2 _ rfl; (with_reducible repeat (first | refine blk_drewN ?_ _ | refine blk_drew ?_ | refine blk_alloc ?_ _)); refine blk_put (cs := #[.int .i64 a0_0, .slice none 0 0, .slice none 0 0, .slice none 0 0]) ?_ 1 _ rfl; (with_reducible repeat (first | refine blk_drewN ?_ _ | refine blk_drew ?_ | refine blk_alloc ?_ _)); refine blk_put (cs := #[.int .i64 0, .slice none 0 0, .slice none 0 0, .slice none 0 0]) ?_ 0 _ rfl; (with_reducible repeat (first | refine blk_drewN ?_ _ | refine blk_drew ?_ | refine blk_alloc ?_ _)); exact BKg2.out)⟩, ⟨bel⟩⟩ ?_
 clear BKg1 BKg5 BKg2 HB kg1_0 kg1_1 kg1_2 kg2_0 kg2_1 kg2_2 kg2_3 fg2_0 fg2_1 fg2_2 fg2_3 hnb1 hnb2 hnb3 hnb4 hnb5 hnb6
 rintro W ⟨BKg1, BKg5, BKg2, HB⟩
 have H := HH.out
 clear HH
 (try clear kg1_0 fg1_0)
 have kg1_0 := blkc BKg1.out 0 (.int .i64 a0_0) rfl
 have fg1_0 := blk_frozen BKg1.out 0
 (try clear kg1_1 fg1_1)
 have kg1_1 := blkc BKg1.out 1 (.slice A0_1 l0_1.length c0_1) rfl
 have fg1_1 := blk_frozen BKg1.out 1
 (try clear kg1_2 fg1_2)
 have kg1_2 := blkc BKg1.out 2 (.slice A0_2 l0_2.length c0_2) rfl
 have fg1_2 := blk_frozen BKg1.out 2
 (try clear kg5_0 fg5_0)
 have kg5_0 := blkc BKg5.out 0 (.slice A4 l4.length c4) rfl
 have fg5_0 := blk_frozen BKg5.out 0
 (try clear kg2_0 fg2_0)
 have kg2_0 := blkc BKg2.out 0 (.int .i64 a0_0) rfl
 have fg2_0 := blk_frozen BKg2.out 0
 (try clear kg2_1 fg2_1)
 have kg2_1 := blkc BKg2.out 1 (.slice A0_1 l0_1.length c0_1) rfl
 have fg2_1 := blk_frozen BKg2.out 1
 (try clear kg2_2 fg2_2)
 have kg2_2 := blkc BKg2.out 2 (.slice A0_2 l0_2.length c0_2) rfl
 have fg2_2 := blk_frozen BKg2.out 2
 (try clear kg2_3 fg2_3)
 have kg2_3 := blkc BKg2.out 3 (.slice A3 l3.length c3) rfl
 have fg2_3 := blk_frozen BKg2.out 3
 cases v with
 | false =>
  rw [if_neg (by decide)] at H
  cases H
  go_wp2_with (first | ((with_reducible refine gate_callee (f := 19) rfl ?_); refine goesL_ (some 19) rfl rfl Tryd.func19 (by kernel_rfl) rfl #[.agg #[.int .i64 a0_0, .slice A0_1 l0_1.length c0_1, .slice A0_2 l0_2.length c0_2]] rfl mapz ?_; (refine (feed_Valid.calls a0_0 _ _ l0_1 _ _ l0_2 _ _ ?side1 ?side2 ?side3 ?side4 E1.out).mono ?_); (case side1 => exact cbz HR0_1); (case side2 => exact HC0_1.out); (case side3 => exact cbz HR0_2); (case side4 => exact HC0_2.out); rintro e wz ⟨rfl, hb⟩; refine ⟨_, rfl, ?_⟩; replace BKg1 := Aside0.mk (blk_below (g := g1) blkz hb); replace BKg5 := Aside0.mk (blk_below (g := g5) blkz hb); replace BKg2 := Aside0.mk (blk_below (g := g2) blkz hb); replace HB := Aside0.mk (below_step bel hb); (try clear hb); (try clear kg1_0 fg1_0); have kg1_0 := blkc BKg1.out 0 (.int .i64 a0_0) rfl; have fg1_0 := blk_frozen BKg1.out 0; (try clear kg1_1 fg1_1); have kg1_1 := blkc BKg1.out 1 (.slice A0_1 l0_1.length c0_1) rfl; have fg1_1 := blk_frozen BKg1.out 1; (try clear kg1_2 fg1_2); have kg1_2 := blkc BKg1.out 2 (.slice A0_2 l0_2.length c0_2) rfl; have fg1_2 := blk_frozen BKg1.out 2; (try clear kg5_0 fg5_0); have kg5_0 := blkc BKg5.out 0 (.slice A4 l4.length c4) rfl; have fg5_0 := blk_frozen BKg5.out 0; (try clear kg2_0 fg2_0); have kg2_0 := blkc BKg2.out 0 (.int .i64 a0_0) rfl; have fg2_0 := blk_frozen BKg2.out 0; (try clear kg2_1 fg2_1); have kg2_1 := blkc BKg2.out 1 (.slice A0_1 l0_1.length c0_1) rfl; have fg2_1 := blk_frozen BKg2.out 1; (try clear kg2_2 fg2_2); have kg2_2 := blkc BKg2.out 2 (.slice A0_2 l0_2.length c0_2) rfl; have fg2_2 := blk_frozen BKg2.out 2; (try clear kg2_3 fg2_3); have kg2_3 := blkc BKg2.out 3 (.slice A3 l3.length c3) rfl; have fg2_3 := blk_frozen BKg2.out 3))
  go_ret2
  exact ⟨rfl, bel⟩
 | true =>
  rw [if_pos rfl] at H
  obtain ⟨te, A20, H⟩ := Option.bind_eq_some_iff.mp H
  have E2 := Aside0.mk A20
  clear A20
  by_cases c1 : te = 0
  ·
   rw [if_pos c1] at H
   have b0 : (te != 0) = false := bne_eq_false_iff_eq.mpr c1
   clear c1
   obtain ⟨ta, A30, H⟩ := Option.bind_eq_some_iff.mp H
   obtain ⟨ok, hgo, H⟩ := Option.bind_eq_some_iff.mp H
   have E3 := Aside0.mk A30
   have HE := Aside0.mk H
   have HG1 := Aside0.mk hgo
   clear A30 hgo H
   go_wp2_with (first | ((with_reducible refine gate_callee (f := 19) rfl ?_); refine goesL_ (some 19) rfl rfl Tryd.func19 (by kernel_rfl) rfl #[.agg #[.int .i64 a0_0, .slice A0_1 l0_1.length c0_1, .slice A0_2 l0_2.length c0_2]] rfl mapz ?_; (refine (feed_Valid.calls a0_0 _ _ l0_1 _ _ l0_2 _ _ ?side1 ?side2 ?side3 ?side4 E1.out).mono ?_); (case side1 => exact cbz HR0_1); (case side2 => exact HC0_1.out); (case side3 => exact cbz HR0_2); (case side4 => exact HC0_2.out); rintro e wz ⟨rfl, hb⟩; refine ⟨_, rfl, ?_⟩; replace BKg1 := Aside0.mk (blk_below (g := g1) blkz hb); replace BKg5 := Aside0.mk (blk_below (g := g5) blkz hb); replace BKg2 := Aside0.mk (blk_below (g := g2) blkz hb); replace HB := Aside0.mk (below_step bel hb); (try clear hb); (try clear kg1_0 fg1_0); have kg1_0 := blkc BKg1.out 0 (.int .i64 a0_0) rfl; have fg1_0 := blk_frozen BKg1.out 0; (try clear kg1_1 fg1_1); have kg1_1 := blkc BKg1.out 1 (.slice A0_1 l0_1.length c0_1) rfl; have fg1_1 := blk_frozen BKg1.out 1; (try clear kg1_2 fg1_2); have kg1_2 := blkc BKg1.out 2 (.slice A0_2 l0_2.length c0_2) rfl; have fg1_2 := blk_frozen BKg1.out 2; (try clear kg5_0 fg5_0); have kg5_0 := blkc BKg5.out 0 (.slice A4 l4.length c4) rfl; have fg5_0 := blk_frozen BKg5.out 0; (try clear kg2_0 fg2_0); have kg2_0 := blkc BKg2.out 0 (.int .i64 a0_0) rfl; have fg2_0 := blk_frozen BKg2.out 0; (try clear kg2_1 fg2_1); have kg2_1 := blkc BKg2.out 1 (.slice A0_1 l0_1.length c0_1) rfl; have fg2_1 := blk_frozen BKg2.out 1; (try clear kg2_2 fg2_2); have kg2_2 := blkc BKg2.out 2 (.slice A0_2 l0_2.length c0_2) rfl; have fg2_2 := blk_frozen BKg2.out 2; (try clear kg2_3 fg2_3); have kg2_3 := blkc BKg2.out 3 (.slice A3 l3.length c3) rfl; have fg2_3 := blk_frozen BKg2.out 3) | ((with_reducible refine gate_callee (f := 84) rfl ?_); refine goesL_ (some 22) rfl rfl Tryd.func84 (by kernel_rfl) rfl #[.agg #[.int .i64 a0_0, .slice A0_1 l0_1.length c0_1, .slice A0_2 l0_2.length c0_2, .slice A3 l3.length c3]] rfl mapz ?_; (refine (feed_rule_kept.calls k a0_0 _ _ l0_1 _ _ l0_2 _ _ l3 _ _ ?side1 ?side2 ?side3 ?side4 ?side5 ?side6 E2.out).mono ?_); (case side1 => exact cbz HR0_1); (case side2 => exact HC0_1.out); (case side3 => exact cbz HR0_2); (case side4 => exact HC0_2.out); (case side5 => exact cbz HR3); (case side6 => exact HC3.out); rintro e wz ⟨rfl, hb⟩; refine ⟨_, rfl, ?_⟩; replace BKg1 := Aside0.mk (blk_below (g := g1) blkz hb); replace BKg5 := Aside0.mk (blk_below (g := g5) blkz hb); replace BKg2 := Aside0.mk (blk_below (g := g2) blkz hb); replace HB := Aside0.mk (below_step bel hb); (try clear hb); (try clear kg1_0 fg1_0); have kg1_0 := blkc BKg1.out 0 (.int .i64 a0_0) rfl; have fg1_0 := blk_frozen BKg1.out 0; (try clear kg1_1 fg1_1); have kg1_1 := blkc BKg1.out 1 (.slice A0_1 l0_1.length c0_1) rfl; have fg1_1 := blk_frozen BKg1.out 1; (try clear kg1_2 fg1_2); have kg1_2 := blkc BKg1.out 2 (.slice A0_2 l0_2.length c0_2) rfl; have fg1_2 := blk_frozen BKg1.out 2; (try clear kg5_0 fg5_0); have kg5_0 := blkc BKg5.out 0 (.slice A4 l4.length c4) rfl; have fg5_0 := blk_frozen BKg5.out 0; (try clear kg2_0 fg2_0); have kg2_0 := blkc BKg2.out 0 (.int .i64 a0_0) rfl; have fg2_0 := blk_frozen BKg2.out 0; (try clear kg2_1 fg2_1); have kg2_1 := blkc BKg2.out 1 (.slice A0_1 l0_1.length c0_1) rfl; have fg2_1 := blk_frozen BKg2.out 1; (try clear kg2_2 fg2_2); have kg2_2 := blkc BKg2.out 2 (.slice A0_2 l0_2.length c0_2) rfl; have fg2_2 := blk_frozen BKg2.out 2; (try clear kg2_3 fg2_3); have kg2_3 := blkc BKg2.out 3 (.slice A3 l3.length c3) rfl; have fg2_3 := blk_frozen BKg2.out 3))
   clear kg1_0 fg1_0 kg1_1 fg1_1 kg1_2 fg1_2 kg5_0 fg5_0 kg2_0 fg2_0 kg2_1 fg2_1 kg2_2 fg2_2 kg2_3 fg2_3
   go_loopg [28] l4.length (fun kq v28 w' => ∃ x : Int, v28 = .int .i64 x ∧ Aside0 (0 ≤ x ∧ x ≤ l4.length) ∧ Aside0 (kq = l4.length - x.toNat) ∧ Aside0 (feed_IsShut.go1 k a0_0 l0_1 l0_2 l3 ta (feed_IsShut.prev l4 x) (l4.drop x.toNat) = some ok) ∧ Aside0 (w'.heap[g1]? = some (.cells #[.int .i64 a0_0, .slice A0_1 l0_1.length c0_1, .slice A0_2 l0_2.length c0_2] 25 (0, 0))) ∧ Aside0 (w'.heap[g5]? = some (.cells #[.slice A4 l4.length c4] 28 (0, 0))) ∧ Aside0 (w'.heap[g2]? = some (.cells #[.int .i64 a0_0, .slice A0_1 l0_1.length c0_1, .slice A0_2 l0_2.length c0_2, .slice A3 l3.length c3] 96 (0, 0))) ∧ Aside0 (Below w.heap.size w w'))
   case atStart => exact ⟨0, rfl, ⟨by omega, by omega⟩, ⟨rfl⟩, HG1, ⟨blkz⟩, ⟨blkz⟩, ⟨blkz⟩, ⟨bel⟩⟩
   case round =>
    clear HG1 BKg1 BKg5 BKg2 HB
    obtain ⟨x, rfl, HI, HK, HG, BKg1, BKg5, BKg2, HB⟩ := hrel
    (try clear kg1_0 fg1_0)
    have kg1_0 := blkc BKg1.out 0 (.int .i64 a0_0) rfl
    have fg1_0 := blk_frozen BKg1.out 0
    (try clear kg1_1 fg1_1)
    have kg1_1 := blkc BKg1.out 1 (.slice A0_1 l0_1.length c0_1) rfl
    have fg1_1 := blk_frozen BKg1.out 1
    (try clear kg1_2 fg1_2)
    have kg1_2 := blkc BKg1.out 2 (.slice A0_2 l0_2.length c0_2) rfl
    have fg1_2 := blk_frozen BKg1.out 2
    (try clear kg5_0 fg5_0)
    have kg5_0 := blkc BKg5.out 0 (.slice A4 l4.length c4) rfl
    have fg5_0 := blk_frozen BKg5.out 0
    (try clear kg2_0 fg2_0)
    have kg2_0 := blkc BKg2.out 0 (.int .i64 a0_0) rfl
    have fg2_0 := blk_frozen BKg2.out 0
    (try clear kg2_1 fg2_1)
    have kg2_1 := blkc BKg2.out 1 (.slice A0_1 l0_1.length c0_1) rfl
    have fg2_1 := blk_frozen BKg2.out 1
    (try clear kg2_2 fg2_2)
    have kg2_2 := blkc BKg2.out 2 (.slice A0_2 l0_2.length c0_2) rfl
    have fg2_2 := blk_frozen BKg2.out 2
    (try clear kg2_3 fg2_3)
    have kg2_3 := blkc BKg2.out 3 (.slice A3 l3.length c3) rfl
    have fg2_3 := blk_frozen BKg2.out 3
    by_cases hlt : x < (l4.length : Int)
    ·
     have b1 : decide (x < (l4.length : Int)) = true := decide_eq_true hlt
     have p1 : 0 ≤ x := HI.out.1
     have hxl : x.toNat < l4.length := by omega
     have hd : l4.drop x.toNat = rd l4 x :: l4.drop (x.toNat + 1) := by
      rw [show rd l4 x = l4[x.toNat] by simp [rd, List.getD_eq_getElem?_getD, hxl]]; exact List.drop_eq_getElem_cons hxl
     obtain ⟨ad, e1, hx0⟩ := Kd.at_int HR4.out x p1 hlt
     have hg := HG.out
     rw [hd, feed_IsShut.go1] at hg
     obtain ⟨c, A40, hg⟩ := Option.bind_eq_some_iff.mp hg
     have E4 := Aside0.mk A40
     replace hx0 := (HB.out.cell (World.block_lt_of_cell? _ _ hx0)).trans hx0
     have hxw : wrap64 (x + 1) = x + 1 := by unfold wrap64; have := HL4.out; omega
     have HXW := Aside0.mk hxw
     replace p1 := eq_true p1
     replace hlt := eq_true hlt
     clear hd A40 hxw
     cases c with
     | false =>
      rw [if_neg (by decide)] at hg
      cases hg
      obtain ⟨rfl, rfl⟩ := Prod.mk.inj (Option.some.inj HE.out)
      clear hxl
      go_wp2_with (first | ((with_reducible refine gate_callee (f := 52) rfl ?_); refine goesL_ (some 36) rfl rfl Tryd.func52 (by kernel_rfl) rfl #[.agg #[.int .i64 a0_0, .slice A0_1 l0_1.length c0_1, .slice A0_2 l0_2.length c0_2]] rfl mapz ?_; (refine (feed_grid_all.calls a0_0 _ _ l0_1 _ _ l0_2 ta _ ?side1 ?side2 ?side3 ?side4 E3.out).mono ?_); (case side1 => exact cbz HR0_1); (case side2 => exact HC0_1.out); (case side3 => exact cbz HR0_2); (case side4 => exact HC0_2.out); rintro e wz ⟨rfl, hb⟩; refine ⟨_, rfl, ?_⟩; replace BKg1 := Aside0.mk (blk_below (g := g1) blkz hb); replace BKg5 := Aside0.mk (blk_below (g := g5) blkz hb); replace BKg2 := Aside0.mk (blk_below (g := g2) blkz hb); replace HB := Aside0.mk (below_step bel hb); (try clear hb); (try clear kg1_0 fg1_0); have kg1_0 := blkc BKg1.out 0 (.int .i64 a0_0) rfl; have fg1_0 := blk_frozen BKg1.out 0; (try clear kg1_1 fg1_1); have kg1_1 := blkc BKg1.out 1 (.slice A0_1 l0_1.length c0_1) rfl; have fg1_1 := blk_frozen BKg1.out 1; (try clear kg1_2 fg1_2); have kg1_2 := blkc BKg1.out 2 (.slice A0_2 l0_2.length c0_2) rfl; have fg1_2 := blk_frozen BKg1.out 2; (try clear kg5_0 fg5_0); have kg5_0 := blkc BKg5.out 0 (.slice A4 l4.length c4) rfl; have fg5_0 := blk_frozen BKg5.out 0; (try clear kg2_0 fg2_0); have kg2_0 := blkc BKg2.out 0 (.int .i64 a0_0) rfl; have fg2_0 := blk_frozen BKg2.out 0; (try clear kg2_1 fg2_1); have kg2_1 := blkc BKg2.out 1 (.slice A0_1 l0_1.length c0_1) rfl; have fg2_1 := blk_frozen BKg2.out 1; (try clear kg2_2 fg2_2); have kg2_2 := blkc BKg2.out 2 (.slice A0_2 l0_2.length c0_2) rfl; have fg2_2 := blk_frozen BKg2.out 2; (try clear kg2_3 fg2_3); have kg2_3 := blkc BKg2.out 3 (.slice A3 l3.length c3) rfl; have fg2_3 := blk_frozen BKg2.out 3) | ((with_reducible refine gate_callee (f := 53) rfl ?_); refine goesL_ (some 38) rfl rfl Tryd.func53 (by kernel_rfl) rfl #[.int .i64 0, .int .i64 (rd l4 x), .int .i64 (wrap64 (ta - 1))] rfl mapz ?_; (refine (feed_within.calls 0 (rd l4 x) (wrap64 (ta - 1)) _ _ E4.out).mono ?_); rintro e w' ⟨rfl, ⟨nd, rfl⟩⟩; refine ⟨_, rfl, ?_⟩; (try (rw [drewN_self wz]; generalize hq_ : World.drewN wz _ = wz; have n1_ : Aside0 (wz.heap[g1]? = some (.cells #[.int .i64 a0_0, .slice A0_1 l0_1.length c0_1, .slice A0_2 l0_2.length c0_2] 25 (0, 0))) := ⟨by rw [← hq_]; exact blkz⟩; have n2_ : Aside0 (wz.heap[g5]? = some (.cells #[.slice A4 l4.length c4] 28 (0, 0))) := ⟨by rw [← hq_]; exact blkz⟩; have n3_ : Aside0 (wz.heap[g2]? = some (.cells #[.int .i64 a0_0, .slice A0_1 l0_1.length c0_1, .slice A0_2 l0_2.length c0_2, .slice A3 l3.length c3] 96 (0, 0))) := ⟨by rw [← hq_]; exact blkz⟩; have n4_ : Aside0 (Below w.heap.size w wz) := ⟨by rw [← hq_]; exact bel⟩; clear BKg1 BKg5 BKg2 HB hq_; have BKg1 := n1_; have BKg5 := n2_; have BKg2 := n3_; have HB := n4_; clear n1_ n2_ n3_ n4_)); (try clear kg1_0 fg1_0); have kg1_0 := blkc BKg1.out 0 (.int .i64 a0_0) rfl; have fg1_0 := blk_frozen BKg1.out 0; (try clear kg1_1 fg1_1); have kg1_1 := blkc BKg1.out 1 (.slice A0_1 l0_1.length c0_1) rfl; have fg1_1 := blk_frozen BKg1.out 1; (try clear kg1_2 fg1_2); have kg1_2 := blkc BKg1.out 2 (.slice A0_2 l0_2.length c0_2) rfl; have fg1_2 := blk_frozen BKg1.out 2; (try clear kg5_0 fg5_0); have kg5_0 := blkc BKg5.out 0 (.slice A4 l4.length c4) rfl; have fg5_0 := blk_frozen BKg5.out 0; (try clear kg2_0 fg2_0); have kg2_0 := blkc BKg2.out 0 (.int .i64 a0_0) rfl; have fg2_0 := blk_frozen BKg2.out 0; (try clear kg2_1 fg2_1); have kg2_1 := blkc BKg2.out 1 (.slice A0_1 l0_1.length c0_1) rfl; have fg2_1 := blk_frozen BKg2.out 1; (try clear kg2_2 fg2_2); have kg2_2 := blkc BKg2.out 2 (.slice A0_2 l0_2.length c0_2) rfl; have fg2_2 := blk_frozen BKg2.out 2; (try clear kg2_3 fg2_3); have kg2_3 := blkc BKg2.out 3 (.slice A3 l3.length c3) rfl; have fg2_3 := blk_frozen BKg2.out 3; (try have hy0 := (HB.out.cell (World.block_lt_of_cell? _ _ HY.out)).trans HY.out)) | (go_at_call 85; (refine (feed_rule_keeps.calls k a0_0 _ _ l0_1 _ _ l0_2 _ _ l3 (rd l4 x) _ _ ?side1 ?side2 ?side3 ?side4 ?side5 ?side6 ?sideT E5.out).mono ?_); (case side1 => exact cbz HR0_1); (case side2 => exact HC0_1.out); (case side3 => exact cbz HR0_2); (case side4 => exact HC0_2.out); (case side5 => exact cbz HR3); (case side6 => exact HC3.out); (case sideT => first | exact HT.out | exact Tab.Tabs.below HT.out bel); rintro e wz ⟨rfl, hb⟩; replace BKg1 := Aside0.mk (blk_below (g := g1) blkz hb); replace BKg5 := Aside0.mk (blk_below (g := g5) blkz hb); replace BKg2 := Aside0.mk (blk_below (g := g2) blkz hb); replace HB := Aside0.mk (below_step bel hb); (try clear hb); (try clear kg1_0 fg1_0); have kg1_0 := blkc BKg1.out 0 (.int .i64 a0_0) rfl; have fg1_0 := blk_frozen BKg1.out 0; (try clear kg1_1 fg1_1); have kg1_1 := blkc BKg1.out 1 (.slice A0_1 l0_1.length c0_1) rfl; have fg1_1 := blk_frozen BKg1.out 1; (try clear kg1_2 fg1_2); have kg1_2 := blkc BKg1.out 2 (.slice A0_2 l0_2.length c0_2) rfl; have fg1_2 := blk_frozen BKg1.out 2; (try clear kg5_0 fg5_0); have kg5_0 := blkc BKg5.out 0 (.slice A4 l4.length c4) rfl; have fg5_0 := blk_frozen BKg5.out 0; (try clear kg2_0 fg2_0); have kg2_0 := blkc BKg2.out 0 (.int .i64 a0_0) rfl; have fg2_0 := blk_frozen BKg2.out 0; (try clear kg2_1 fg2_1); have kg2_1 := blkc BKg2.out 1 (.slice A0_1 l0_1.length c0_1) rfl; have fg2_1 := blk_frozen BKg2.out 1; (try clear kg2_2 fg2_2); have kg2_2 := blkc BKg2.out 2 (.slice A0_2 l0_2.length c0_2) rfl; have fg2_2 := blk_frozen BKg2.out 2; (try clear kg2_3 fg2_3); have kg2_3 := blkc BKg2.out 3 (.slice A3 l3.length c3) rfl; have fg2_3 := blk_frozen BKg2.out 3))
      go_ret2
      exact ⟨rfl, bel⟩
     | true =>
      rw [if_pos rfl] at hg
      by_cases hpos : 0 < x
      ·
       have b2 : decide (x > 0) = true := decide_eq_true hpos
       have hym : wrap64 (x - 1) = x - 1 := by unfold wrap64; have := HL4.out; have := of_eq_true hlt; omega
       have q1 : 0 ≤ x - 1 := by omega
       have q2 : x - 1 < (l4.length : Int) := by have := of_eq_true hlt; omega
       obtain ⟨ad2, e2, hy0⟩ := Kd.at_int HR4.out (x - 1) q1 q2
       cases e1.symm.trans e2
       clear e2
       rw [show (x - 1).toNat = x.toNat - 1 by omega] at hy0
       have HY := Aside0.mk hy0
       clear hy0
       have q3 : (1 ≤ x) = True := eq_true (by omega)
       replace q1 := eq_true q1
       replace q2 := eq_true q2
       have hp : feed_IsShut.before (feed_IsShut.prev l4 x) (rd l4 x) = decide (rd l4 x ≤ rd l4 (x - 1)) := by unfold feed_IsShut.prev; rw [if_pos hpos]; rfl
       rw [hp] at hg
       by_cases hle : rd l4 x ≤ rd l4 (x - 1)
       ·
        have b3 : decide (rd l4 x ≤ rd l4 (x - 1)) = true := decide_eq_true hle
        rw [if_pos b3] at hg
        cases hg
        obtain ⟨rfl, rfl⟩ := Prod.mk.inj (Option.some.inj HE.out)
        clear hxl hp hle hpos
        go_wp2_with (first | ((with_reducible refine gate_callee (f := 52) rfl ?_); refine goesL_ (some 36) rfl rfl Tryd.func52 (by kernel_rfl) rfl #[.agg #[.int .i64 a0_0, .slice A0_1 l0_1.length c0_1, .slice A0_2 l0_2.length c0_2]] rfl mapz ?_; (refine (feed_grid_all.calls a0_0 _ _ l0_1 _ _ l0_2 ta _ ?side1 ?side2 ?side3 ?side4 E3.out).mono ?_); (case side1 => exact cbz HR0_1); (case side2 => exact HC0_1.out); (case side3 => exact cbz HR0_2); (case side4 => exact HC0_2.out); rintro e wz ⟨rfl, hb⟩; refine ⟨_, rfl, ?_⟩; replace BKg1 := Aside0.mk (blk_below (g := g1) blkz hb); replace BKg5 := Aside0.mk (blk_below (g := g5) blkz hb); replace BKg2 := Aside0.mk (blk_below (g := g2) blkz hb); replace HB := Aside0.mk (below_step bel hb); (try clear hb); (try clear kg1_0 fg1_0); have kg1_0 := blkc BKg1.out 0 (.int .i64 a0_0) rfl; have fg1_0 := blk_frozen BKg1.out 0; (try clear kg1_1 fg1_1); have kg1_1 := blkc BKg1.out 1 (.slice A0_1 l0_1.length c0_1) rfl; have fg1_1 := blk_frozen BKg1.out 1; (try clear kg1_2 fg1_2); have kg1_2 := blkc BKg1.out 2 (.slice A0_2 l0_2.length c0_2) rfl; have fg1_2 := blk_frozen BKg1.out 2; (try clear kg5_0 fg5_0); have kg5_0 := blkc BKg5.out 0 (.slice A4 l4.length c4) rfl; have fg5_0 := blk_frozen BKg5.out 0; (try clear kg2_0 fg2_0); have kg2_0 := blkc BKg2.out 0 (.int .i64 a0_0) rfl; have fg2_0 := blk_frozen BKg2.out 0; (try clear kg2_1 fg2_1); have kg2_1 := blkc BKg2.out 1 (.slice A0_1 l0_1.length c0_1) rfl; have fg2_1 := blk_frozen BKg2.out 1; (try clear kg2_2 fg2_2); have kg2_2 := blkc BKg2.out 2 (.slice A0_2 l0_2.length c0_2) rfl; have fg2_2 := blk_frozen BKg2.out 2; (try clear kg2_3 fg2_3); have kg2_3 := blkc BKg2.out 3 (.slice A3 l3.length c3) rfl; have fg2_3 := blk_frozen BKg2.out 3) | ((with_reducible refine gate_callee (f := 53) rfl ?_); refine goesL_ (some 38) rfl rfl Tryd.func53 (by kernel_rfl) rfl #[.int .i64 0, .int .i64 (rd l4 x), .int .i64 (wrap64 (ta - 1))] rfl mapz ?_; (refine (feed_within.calls 0 (rd l4 x) (wrap64 (ta - 1)) _ _ E4.out).mono ?_); rintro e w' ⟨rfl, ⟨nd, rfl⟩⟩; refine ⟨_, rfl, ?_⟩; (try (rw [drewN_self wz]; generalize hq_ : World.drewN wz _ = wz; have n1_ : Aside0 (wz.heap[g1]? = some (.cells #[.int .i64 a0_0, .slice A0_1 l0_1.length c0_1, .slice A0_2 l0_2.length c0_2] 25 (0, 0))) := ⟨by rw [← hq_]; exact blkz⟩; have n2_ : Aside0 (wz.heap[g5]? = some (.cells #[.slice A4 l4.length c4] 28 (0, 0))) := ⟨by rw [← hq_]; exact blkz⟩; have n3_ : Aside0 (wz.heap[g2]? = some (.cells #[.int .i64 a0_0, .slice A0_1 l0_1.length c0_1, .slice A0_2 l0_2.length c0_2, .slice A3 l3.length c3] 96 (0, 0))) := ⟨by rw [← hq_]; exact blkz⟩; have n4_ : Aside0 (Below w.heap.size w wz) := ⟨by rw [← hq_]; exact bel⟩; clear BKg1 BKg5 BKg2 HB hq_; have BKg1 := n1_; have BKg5 := n2_; have BKg2 := n3_; have HB := n4_; clear n1_ n2_ n3_ n4_)); (try clear kg1_0 fg1_0); have kg1_0 := blkc BKg1.out 0 (.int .i64 a0_0) rfl; have fg1_0 := blk_frozen BKg1.out 0; (try clear kg1_1 fg1_1); have kg1_1 := blkc BKg1.out 1 (.slice A0_1 l0_1.length c0_1) rfl; have fg1_1 := blk_frozen BKg1.out 1; (try clear kg1_2 fg1_2); have kg1_2 := blkc BKg1.out 2 (.slice A0_2 l0_2.length c0_2) rfl; have fg1_2 := blk_frozen BKg1.out 2; (try clear kg5_0 fg5_0); have kg5_0 := blkc BKg5.out 0 (.slice A4 l4.length c4) rfl; have fg5_0 := blk_frozen BKg5.out 0; (try clear kg2_0 fg2_0); have kg2_0 := blkc BKg2.out 0 (.int .i64 a0_0) rfl; have fg2_0 := blk_frozen BKg2.out 0; (try clear kg2_1 fg2_1); have kg2_1 := blkc BKg2.out 1 (.slice A0_1 l0_1.length c0_1) rfl; have fg2_1 := blk_frozen BKg2.out 1; (try clear kg2_2 fg2_2); have kg2_2 := blkc BKg2.out 2 (.slice A0_2 l0_2.length c0_2) rfl; have fg2_2 := blk_frozen BKg2.out 2; (try clear kg2_3 fg2_3); have kg2_3 := blkc BKg2.out 3 (.slice A3 l3.length c3) rfl; have fg2_3 := blk_frozen BKg2.out 3; (try have hy0 := (HB.out.cell (World.block_lt_of_cell? _ _ HY.out)).trans HY.out)) | (go_at_call 85; (refine (feed_rule_keeps.calls k a0_0 _ _ l0_1 _ _ l0_2 _ _ l3 (rd l4 x) _ _ ?side1 ?side2 ?side3 ?side4 ?side5 ?side6 ?sideT E5.out).mono ?_); (case side1 => exact cbz HR0_1); (case side2 => exact HC0_1.out); (case side3 => exact cbz HR0_2); (case side4 => exact HC0_2.out); (case side5 => exact cbz HR3); (case side6 => exact HC3.out); (case sideT => first | exact HT.out | exact Tab.Tabs.below HT.out bel); rintro e wz ⟨rfl, hb⟩; replace BKg1 := Aside0.mk (blk_below (g := g1) blkz hb); replace BKg5 := Aside0.mk (blk_below (g := g5) blkz hb); replace BKg2 := Aside0.mk (blk_below (g := g2) blkz hb); replace HB := Aside0.mk (below_step bel hb); (try clear hb); (try clear kg1_0 fg1_0); have kg1_0 := blkc BKg1.out 0 (.int .i64 a0_0) rfl; have fg1_0 := blk_frozen BKg1.out 0; (try clear kg1_1 fg1_1); have kg1_1 := blkc BKg1.out 1 (.slice A0_1 l0_1.length c0_1) rfl; have fg1_1 := blk_frozen BKg1.out 1; (try clear kg1_2 fg1_2); have kg1_2 := blkc BKg1.out 2 (.slice A0_2 l0_2.length c0_2) rfl; have fg1_2 := blk_frozen BKg1.out 2; (try clear kg5_0 fg5_0); have kg5_0 := blkc BKg5.out 0 (.slice A4 l4.length c4) rfl; have fg5_0 := blk_frozen BKg5.out 0; (try clear kg2_0 fg2_0); have kg2_0 := blkc BKg2.out 0 (.int .i64 a0_0) rfl; have fg2_0 := blk_frozen BKg2.out 0; (try clear kg2_1 fg2_1); have kg2_1 := blkc BKg2.out 1 (.slice A0_1 l0_1.length c0_1) rfl; have fg2_1 := blk_frozen BKg2.out 1; (try clear kg2_2 fg2_2); have kg2_2 := blkc BKg2.out 2 (.slice A0_2 l0_2.length c0_2) rfl; have fg2_2 := blk_frozen BKg2.out 2; (try clear kg2_3 fg2_3); have kg2_3 := blkc BKg2.out 3 (.slice A3 l3.length c3) rfl; have fg2_3 := blk_frozen BKg2.out 3))
        go_ret2
        exact ⟨rfl, bel⟩
       ·
        have b3 : decide (rd l4 x ≤ rd l4 (x - 1)) = false := decide_eq_false hle
        rw [if_neg (by rw [b3]; decide)] at hg
        clear hp hle hpos
        obtain ⟨b, A50, hg⟩ := Option.bind_eq_some_iff.mp hg
        have E5 := Aside0.mk A50
        clear A50
        cases b with
        | false =>
         rw [if_neg (by decide)] at hg
         cases hg
         obtain ⟨rfl, rfl⟩ := Prod.mk.inj (Option.some.inj HE.out)
         clear hxl
         go_wp2_with (first | ((with_reducible refine gate_callee (f := 52) rfl ?_); refine goesL_ (some 36) rfl rfl Tryd.func52 (by kernel_rfl) rfl #[.agg #[.int .i64 a0_0, .slice A0_1 l0_1.length c0_1, .slice A0_2 l0_2.length c0_2]] rfl mapz ?_; (refine (feed_grid_all.calls a0_0 _ _ l0_1 _ _ l0_2 ta _ ?side1 ?side2 ?side3 ?side4 E3.out).mono ?_); (case side1 => exact cbz HR0_1); (case side2 => exact HC0_1.out); (case side3 => exact cbz HR0_2); (case side4 => exact HC0_2.out); rintro e wz ⟨rfl, hb⟩; refine ⟨_, rfl, ?_⟩; replace BKg1 := Aside0.mk (blk_below (g := g1) blkz hb); replace BKg5 := Aside0.mk (blk_below (g := g5) blkz hb); replace BKg2 := Aside0.mk (blk_below (g := g2) blkz hb); replace HB := Aside0.mk (below_step bel hb); (try clear hb); (try clear kg1_0 fg1_0); have kg1_0 := blkc BKg1.out 0 (.int .i64 a0_0) rfl; have fg1_0 := blk_frozen BKg1.out 0; (try clear kg1_1 fg1_1); have kg1_1 := blkc BKg1.out 1 (.slice A0_1 l0_1.length c0_1) rfl; have fg1_1 := blk_frozen BKg1.out 1; (try clear kg1_2 fg1_2); have kg1_2 := blkc BKg1.out 2 (.slice A0_2 l0_2.length c0_2) rfl; have fg1_2 := blk_frozen BKg1.out 2; (try clear kg5_0 fg5_0); have kg5_0 := blkc BKg5.out 0 (.slice A4 l4.length c4) rfl; have fg5_0 := blk_frozen BKg5.out 0; (try clear kg2_0 fg2_0); have kg2_0 := blkc BKg2.out 0 (.int .i64 a0_0) rfl; have fg2_0 := blk_frozen BKg2.out 0; (try clear kg2_1 fg2_1); have kg2_1 := blkc BKg2.out 1 (.slice A0_1 l0_1.length c0_1) rfl; have fg2_1 := blk_frozen BKg2.out 1; (try clear kg2_2 fg2_2); have kg2_2 := blkc BKg2.out 2 (.slice A0_2 l0_2.length c0_2) rfl; have fg2_2 := blk_frozen BKg2.out 2; (try clear kg2_3 fg2_3); have kg2_3 := blkc BKg2.out 3 (.slice A3 l3.length c3) rfl; have fg2_3 := blk_frozen BKg2.out 3) | ((with_reducible refine gate_callee (f := 53) rfl ?_); refine goesL_ (some 38) rfl rfl Tryd.func53 (by kernel_rfl) rfl #[.int .i64 0, .int .i64 (rd l4 x), .int .i64 (wrap64 (ta - 1))] rfl mapz ?_; (refine (feed_within.calls 0 (rd l4 x) (wrap64 (ta - 1)) _ _ E4.out).mono ?_); rintro e w' ⟨rfl, ⟨nd, rfl⟩⟩; refine ⟨_, rfl, ?_⟩; (try (rw [drewN_self wz]; generalize hq_ : World.drewN wz _ = wz; have n1_ : Aside0 (wz.heap[g1]? = some (.cells #[.int .i64 a0_0, .slice A0_1 l0_1.length c0_1, .slice A0_2 l0_2.length c0_2] 25 (0, 0))) := ⟨by rw [← hq_]; exact blkz⟩; have n2_ : Aside0 (wz.heap[g5]? = some (.cells #[.slice A4 l4.length c4] 28 (0, 0))) := ⟨by rw [← hq_]; exact blkz⟩; have n3_ : Aside0 (wz.heap[g2]? = some (.cells #[.int .i64 a0_0, .slice A0_1 l0_1.length c0_1, .slice A0_2 l0_2.length c0_2, .slice A3 l3.length c3] 96 (0, 0))) := ⟨by rw [← hq_]; exact blkz⟩; have n4_ : Aside0 (Below w.heap.size w wz) := ⟨by rw [← hq_]; exact bel⟩; clear BKg1 BKg5 BKg2 HB hq_; have BKg1 := n1_; have BKg5 := n2_; have BKg2 := n3_; have HB := n4_; clear n1_ n2_ n3_ n4_)); (try clear kg1_0 fg1_0); have kg1_0 := blkc BKg1.out 0 (.int .i64 a0_0) rfl; have fg1_0 := blk_frozen BKg1.out 0; (try clear kg1_1 fg1_1); have kg1_1 := blkc BKg1.out 1 (.slice A0_1 l0_1.length c0_1) rfl; have fg1_1 := blk_frozen BKg1.out 1; (try clear kg1_2 fg1_2); have kg1_2 := blkc BKg1.out 2 (.slice A0_2 l0_2.length c0_2) rfl; have fg1_2 := blk_frozen BKg1.out 2; (try clear kg5_0 fg5_0); have kg5_0 := blkc BKg5.out 0 (.slice A4 l4.length c4) rfl; have fg5_0 := blk_frozen BKg5.out 0; (try clear kg2_0 fg2_0); have kg2_0 := blkc BKg2.out 0 (.int .i64 a0_0) rfl; have fg2_0 := blk_frozen BKg2.out 0; (try clear kg2_1 fg2_1); have kg2_1 := blkc BKg2.out 1 (.slice A0_1 l0_1.length c0_1) rfl; have fg2_1 := blk_frozen BKg2.out 1; (try clear kg2_2 fg2_2); have kg2_2 := blkc BKg2.out 2 (.slice A0_2 l0_2.length c0_2) rfl; have fg2_2 := blk_frozen BKg2.out 2; (try clear kg2_3 fg2_3); have kg2_3 := blkc BKg2.out 3 (.slice A3 l3.length c3) rfl; have fg2_3 := blk_frozen BKg2.out 3; (try have hy0 := (HB.out.cell (World.block_lt_of_cell? _ _ HY.out)).trans HY.out)) | (go_at_call 85; (refine (feed_rule_keeps.calls k a0_0 _ _ l0_1 _ _ l0_2 _ _ l3 (rd l4 x) _ _ ?side1 ?side2 ?side3 ?side4 ?side5 ?side6 ?sideT E5.out).mono ?_); (case side1 => exact cbz HR0_1); (case side2 => exact HC0_1.out); (case side3 => exact cbz HR0_2); (case side4 => exact HC0_2.out); (case side5 => exact cbz HR3); (case side6 => exact HC3.out); (case sideT => first | exact HT.out | exact Tab.Tabs.below HT.out bel); rintro e wz ⟨rfl, hb⟩; replace BKg1 := Aside0.mk (blk_below (g := g1) blkz hb); replace BKg5 := Aside0.mk (blk_below (g := g5) blkz hb); replace BKg2 := Aside0.mk (blk_below (g := g2) blkz hb); replace HB := Aside0.mk (below_step bel hb); (try clear hb); (try clear kg1_0 fg1_0); have kg1_0 := blkc BKg1.out 0 (.int .i64 a0_0) rfl; have fg1_0 := blk_frozen BKg1.out 0; (try clear kg1_1 fg1_1); have kg1_1 := blkc BKg1.out 1 (.slice A0_1 l0_1.length c0_1) rfl; have fg1_1 := blk_frozen BKg1.out 1; (try clear kg1_2 fg1_2); have kg1_2 := blkc BKg1.out 2 (.slice A0_2 l0_2.length c0_2) rfl; have fg1_2 := blk_frozen BKg1.out 2; (try clear kg5_0 fg5_0); have kg5_0 := blkc BKg5.out 0 (.slice A4 l4.length c4) rfl; have fg5_0 := blk_frozen BKg5.out 0; (try clear kg2_0 fg2_0); have kg2_0 := blkc BKg2.out 0 (.int .i64 a0_0) rfl; have fg2_0 := blk_frozen BKg2.out 0; (try clear kg2_1 fg2_1); have kg2_1 := blkc BKg2.out 1 (.slice A0_1 l0_1.length c0_1) rfl; have fg2_1 := blk_frozen BKg2.out 1; (try clear kg2_2 fg2_2); have kg2_2 := blkc BKg2.out 2 (.slice A0_2 l0_2.length c0_2) rfl; have fg2_2 := blk_frozen BKg2.out 2; (try clear kg2_3 fg2_3); have kg2_3 := blkc BKg2.out 3 (.slice A3 l3.length c3) rfl; have fg2_3 := blk_frozen BKg2.out 3))
         go_ret2
         exact ⟨rfl, bel⟩
        | true =>
         rw [if_pos rfl] at hg
         have HN := Aside0.mk hg
         clear hg hxl
         go_wp2_with (first | ((with_reducible refine gate_callee (f := 52) rfl ?_); refine goesL_ (some 36) rfl rfl Tryd.func52 (by kernel_rfl) rfl #[.agg #[.int .i64 a0_0, .slice A0_1 l0_1.length c0_1, .slice A0_2 l0_2.length c0_2]] rfl mapz ?_; (refine (feed_grid_all.calls a0_0 _ _ l0_1 _ _ l0_2 ta _ ?side1 ?side2 ?side3 ?side4 E3.out).mono ?_); (case side1 => exact cbz HR0_1); (case side2 => exact HC0_1.out); (case side3 => exact cbz HR0_2); (case side4 => exact HC0_2.out); rintro e wz ⟨rfl, hb⟩; refine ⟨_, rfl, ?_⟩; replace BKg1 := Aside0.mk (blk_below (g := g1) blkz hb); replace BKg5 := Aside0.mk (blk_below (g := g5) blkz hb); replace BKg2 := Aside0.mk (blk_below (g := g2) blkz hb); replace HB := Aside0.mk (below_step bel hb); (try clear hb); (try clear kg1_0 fg1_0); have kg1_0 := blkc BKg1.out 0 (.int .i64 a0_0) rfl; have fg1_0 := blk_frozen BKg1.out 0; (try clear kg1_1 fg1_1); have kg1_1 := blkc BKg1.out 1 (.slice A0_1 l0_1.length c0_1) rfl; have fg1_1 := blk_frozen BKg1.out 1; (try clear kg1_2 fg1_2); have kg1_2 := blkc BKg1.out 2 (.slice A0_2 l0_2.length c0_2) rfl; have fg1_2 := blk_frozen BKg1.out 2; (try clear kg5_0 fg5_0); have kg5_0 := blkc BKg5.out 0 (.slice A4 l4.length c4) rfl; have fg5_0 := blk_frozen BKg5.out 0; (try clear kg2_0 fg2_0); have kg2_0 := blkc BKg2.out 0 (.int .i64 a0_0) rfl; have fg2_0 := blk_frozen BKg2.out 0; (try clear kg2_1 fg2_1); have kg2_1 := blkc BKg2.out 1 (.slice A0_1 l0_1.length c0_1) rfl; have fg2_1 := blk_frozen BKg2.out 1; (try clear kg2_2 fg2_2); have kg2_2 := blkc BKg2.out 2 (.slice A0_2 l0_2.length c0_2) rfl; have fg2_2 := blk_frozen BKg2.out 2; (try clear kg2_3 fg2_3); have kg2_3 := blkc BKg2.out 3 (.slice A3 l3.length c3) rfl; have fg2_3 := blk_frozen BKg2.out 3) | ((with_reducible refine gate_callee (f := 53) rfl ?_); refine goesL_ (some 38) rfl rfl Tryd.func53 (by kernel_rfl) rfl #[.int .i64 0, .int .i64 (rd l4 x), .int .i64 (wrap64 (ta - 1))] rfl mapz ?_; (refine (feed_within.calls 0 (rd l4 x) (wrap64 (ta - 1)) _ _ E4.out).mono ?_); rintro e w' ⟨rfl, ⟨nd, rfl⟩⟩; refine ⟨_, rfl, ?_⟩; (try (rw [drewN_self wz]; generalize hq_ : World.drewN wz _ = wz; have n1_ : Aside0 (wz.heap[g1]? = some (.cells #[.int .i64 a0_0, .slice A0_1 l0_1.length c0_1, .slice A0_2 l0_2.length c0_2] 25 (0, 0))) := ⟨by rw [← hq_]; exact blkz⟩; have n2_ : Aside0 (wz.heap[g5]? = some (.cells #[.slice A4 l4.length c4] 28 (0, 0))) := ⟨by rw [← hq_]; exact blkz⟩; have n3_ : Aside0 (wz.heap[g2]? = some (.cells #[.int .i64 a0_0, .slice A0_1 l0_1.length c0_1, .slice A0_2 l0_2.length c0_2, .slice A3 l3.length c3] 96 (0, 0))) := ⟨by rw [← hq_]; exact blkz⟩; have n4_ : Aside0 (Below w.heap.size w wz) := ⟨by rw [← hq_]; exact bel⟩; clear BKg1 BKg5 BKg2 HB hq_; have BKg1 := n1_; have BKg5 := n2_; have BKg2 := n3_; have HB := n4_; clear n1_ n2_ n3_ n4_)); (try clear kg1_0 fg1_0); have kg1_0 := blkc BKg1.out 0 (.int .i64 a0_0) rfl; have fg1_0 := blk_frozen BKg1.out 0; (try clear kg1_1 fg1_1); have kg1_1 := blkc BKg1.out 1 (.slice A0_1 l0_1.length c0_1) rfl; have fg1_1 := blk_frozen BKg1.out 1; (try clear kg1_2 fg1_2); have kg1_2 := blkc BKg1.out 2 (.slice A0_2 l0_2.length c0_2) rfl; have fg1_2 := blk_frozen BKg1.out 2; (try clear kg5_0 fg5_0); have kg5_0 := blkc BKg5.out 0 (.slice A4 l4.length c4) rfl; have fg5_0 := blk_frozen BKg5.out 0; (try clear kg2_0 fg2_0); have kg2_0 := blkc BKg2.out 0 (.int .i64 a0_0) rfl; have fg2_0 := blk_frozen BKg2.out 0; (try clear kg2_1 fg2_1); have kg2_1 := blkc BKg2.out 1 (.slice A0_1 l0_1.length c0_1) rfl; have fg2_1 := blk_frozen BKg2.out 1; (try clear kg2_2 fg2_2); have kg2_2 := blkc BKg2.out 2 (.slice A0_2 l0_2.length c0_2) rfl; have fg2_2 := blk_frozen BKg2.out 2; (try clear kg2_3 fg2_3); have kg2_3 := blkc BKg2.out 3 (.slice A3 l3.length c3) rfl; have fg2_3 := blk_frozen BKg2.out 3; (try have hy0 := (HB.out.cell (World.block_lt_of_cell? _ _ HY.out)).trans HY.out)) | (go_at_call 85; (refine (feed_rule_keeps.calls k a0_0 _ _ l0_1 _ _ l0_2 _ _ l3 (rd l4 x) _ _ ?side1 ?side2 ?side3 ?side4 ?side5 ?side6 ?sideT E5.out).mono ?_); (case side1 => exact cbz HR0_1); (case side2 => exact HC0_1.out); (case side3 => exact cbz HR0_2); (case side4 => exact HC0_2.out); (case side5 => exact cbz HR3); (case side6 => exact HC3.out); (case sideT => first | exact HT.out | exact Tab.Tabs.below HT.out bel); rintro e wz ⟨rfl, hb⟩; replace BKg1 := Aside0.mk (blk_below (g := g1) blkz hb); replace BKg5 := Aside0.mk (blk_below (g := g5) blkz hb); replace BKg2 := Aside0.mk (blk_below (g := g2) blkz hb); replace HB := Aside0.mk (below_step bel hb); (try clear hb); (try clear kg1_0 fg1_0); have kg1_0 := blkc BKg1.out 0 (.int .i64 a0_0) rfl; have fg1_0 := blk_frozen BKg1.out 0; (try clear kg1_1 fg1_1); have kg1_1 := blkc BKg1.out 1 (.slice A0_1 l0_1.length c0_1) rfl; have fg1_1 := blk_frozen BKg1.out 1; (try clear kg1_2 fg1_2); have kg1_2 := blkc BKg1.out 2 (.slice A0_2 l0_2.length c0_2) rfl; have fg1_2 := blk_frozen BKg1.out 2; (try clear kg5_0 fg5_0); have kg5_0 := blkc BKg5.out 0 (.slice A4 l4.length c4) rfl; have fg5_0 := blk_frozen BKg5.out 0; (try clear kg2_0 fg2_0); have kg2_0 := blkc BKg2.out 0 (.int .i64 a0_0) rfl; have fg2_0 := blk_frozen BKg2.out 0; (try clear kg2_1 fg2_1); have kg2_1 := blkc BKg2.out 1 (.slice A0_1 l0_1.length c0_1) rfl; have fg2_1 := blk_frozen BKg2.out 1; (try clear kg2_2 fg2_2); have kg2_2 := blkc BKg2.out 2 (.slice A0_2 l0_2.length c0_2) rfl; have fg2_2 := blk_frozen BKg2.out 2; (try clear kg2_3 fg2_3); have kg2_3 := blkc BKg2.out 3 (.slice A3 l3.length c3) rfl; have fg2_3 := blk_frozen BKg2.out 3))
         rw [← e1]
         go_roundg (l4.length - (x + 1).toNat)
         case measure => have := HI.out; have := HK.out; have := of_eq_true hlt; omega
         case rel => exact ⟨x + 1, by first | rfl | rw [HXW.out], ⟨by have := HI.out; omega, by have := of_eq_true hlt; omega⟩, ⟨rfl⟩, ⟨by rw [show (x + 1).toNat = x.toNat + 1 by have := HI.out; omega, show feed_IsShut.prev l4 (x + 1) = some (rd l4 x) by unfold feed_IsShut.prev; rw [if_pos (by have := HI.out; omega), Int.add_sub_cancel]]; exact HN.out⟩, ⟨blkz⟩, ⟨blkz⟩, ⟨blkz⟩, ⟨bel⟩⟩
      ·
       have b2 : decide (x > 0) = false := decide_eq_false hpos
       have hp : feed_IsShut.before (feed_IsShut.prev l4 x) (rd l4 x) = false := by unfold feed_IsShut.prev; rw [if_neg hpos]; rfl
       rw [hp, if_neg (by decide)] at hg
       clear hp hpos
       obtain ⟨b, A50, hg⟩ := Option.bind_eq_some_iff.mp hg
       have E5 := Aside0.mk A50
       clear A50
       cases b with
       | false =>
        rw [if_neg (by decide)] at hg
        cases hg
        obtain ⟨rfl, rfl⟩ := Prod.mk.inj (Option.some.inj HE.out)
        clear hxl
        go_wp2_with (first | ((with_reducible refine gate_callee (f := 52) rfl ?_); refine goesL_ (some 36) rfl rfl Tryd.func52 (by kernel_rfl) rfl #[.agg #[.int .i64 a0_0, .slice A0_1 l0_1.length c0_1, .slice A0_2 l0_2.length c0_2]] rfl mapz ?_; (refine (feed_grid_all.calls a0_0 _ _ l0_1 _ _ l0_2 ta _ ?side1 ?side2 ?side3 ?side4 E3.out).mono ?_); (case side1 => exact cbz HR0_1); (case side2 => exact HC0_1.out); (case side3 => exact cbz HR0_2); (case side4 => exact HC0_2.out); rintro e wz ⟨rfl, hb⟩; refine ⟨_, rfl, ?_⟩; replace BKg1 := Aside0.mk (blk_below (g := g1) blkz hb); replace BKg5 := Aside0.mk (blk_below (g := g5) blkz hb); replace BKg2 := Aside0.mk (blk_below (g := g2) blkz hb); replace HB := Aside0.mk (below_step bel hb); (try clear hb); (try clear kg1_0 fg1_0); have kg1_0 := blkc BKg1.out 0 (.int .i64 a0_0) rfl; have fg1_0 := blk_frozen BKg1.out 0; (try clear kg1_1 fg1_1); have kg1_1 := blkc BKg1.out 1 (.slice A0_1 l0_1.length c0_1) rfl; have fg1_1 := blk_frozen BKg1.out 1; (try clear kg1_2 fg1_2); have kg1_2 := blkc BKg1.out 2 (.slice A0_2 l0_2.length c0_2) rfl; have fg1_2 := blk_frozen BKg1.out 2; (try clear kg5_0 fg5_0); have kg5_0 := blkc BKg5.out 0 (.slice A4 l4.length c4) rfl; have fg5_0 := blk_frozen BKg5.out 0; (try clear kg2_0 fg2_0); have kg2_0 := blkc BKg2.out 0 (.int .i64 a0_0) rfl; have fg2_0 := blk_frozen BKg2.out 0; (try clear kg2_1 fg2_1); have kg2_1 := blkc BKg2.out 1 (.slice A0_1 l0_1.length c0_1) rfl; have fg2_1 := blk_frozen BKg2.out 1; (try clear kg2_2 fg2_2); have kg2_2 := blkc BKg2.out 2 (.slice A0_2 l0_2.length c0_2) rfl; have fg2_2 := blk_frozen BKg2.out 2; (try clear kg2_3 fg2_3); have kg2_3 := blkc BKg2.out 3 (.slice A3 l3.length c3) rfl; have fg2_3 := blk_frozen BKg2.out 3) | ((with_reducible refine gate_callee (f := 53) rfl ?_); refine goesL_ (some 38) rfl rfl Tryd.func53 (by kernel_rfl) rfl #[.int .i64 0, .int .i64 (rd l4 x), .int .i64 (wrap64 (ta - 1))] rfl mapz ?_; (refine (feed_within.calls 0 (rd l4 x) (wrap64 (ta - 1)) _ _ E4.out).mono ?_); rintro e w' ⟨rfl, ⟨nd, rfl⟩⟩; refine ⟨_, rfl, ?_⟩; (try (rw [drewN_self wz]; generalize hq_ : World.drewN wz _ = wz; have n1_ : Aside0 (wz.heap[g1]? = some (.cells #[.int .i64 a0_0, .slice A0_1 l0_1.length c0_1, .slice A0_2 l0_2.length c0_2] 25 (0, 0))) := ⟨by rw [← hq_]; exact blkz⟩; have n2_ : Aside0 (wz.heap[g5]? = some (.cells #[.slice A4 l4.length c4] 28 (0, 0))) := ⟨by rw [← hq_]; exact blkz⟩; have n3_ : Aside0 (wz.heap[g2]? = some (.cells #[.int .i64 a0_0, .slice A0_1 l0_1.length c0_1, .slice A0_2 l0_2.length c0_2, .slice A3 l3.length c3] 96 (0, 0))) := ⟨by rw [← hq_]; exact blkz⟩; have n4_ : Aside0 (Below w.heap.size w wz) := ⟨by rw [← hq_]; exact bel⟩; clear BKg1 BKg5 BKg2 HB hq_; have BKg1 := n1_; have BKg5 := n2_; have BKg2 := n3_; have HB := n4_; clear n1_ n2_ n3_ n4_)); (try clear kg1_0 fg1_0); have kg1_0 := blkc BKg1.out 0 (.int .i64 a0_0) rfl; have fg1_0 := blk_frozen BKg1.out 0; (try clear kg1_1 fg1_1); have kg1_1 := blkc BKg1.out 1 (.slice A0_1 l0_1.length c0_1) rfl; have fg1_1 := blk_frozen BKg1.out 1; (try clear kg1_2 fg1_2); have kg1_2 := blkc BKg1.out 2 (.slice A0_2 l0_2.length c0_2) rfl; have fg1_2 := blk_frozen BKg1.out 2; (try clear kg5_0 fg5_0); have kg5_0 := blkc BKg5.out 0 (.slice A4 l4.length c4) rfl; have fg5_0 := blk_frozen BKg5.out 0; (try clear kg2_0 fg2_0); have kg2_0 := blkc BKg2.out 0 (.int .i64 a0_0) rfl; have fg2_0 := blk_frozen BKg2.out 0; (try clear kg2_1 fg2_1); have kg2_1 := blkc BKg2.out 1 (.slice A0_1 l0_1.length c0_1) rfl; have fg2_1 := blk_frozen BKg2.out 1; (try clear kg2_2 fg2_2); have kg2_2 := blkc BKg2.out 2 (.slice A0_2 l0_2.length c0_2) rfl; have fg2_2 := blk_frozen BKg2.out 2; (try clear kg2_3 fg2_3); have kg2_3 := blkc BKg2.out 3 (.slice A3 l3.length c3) rfl; have fg2_3 := blk_frozen BKg2.out 3; (try have hy0 := (HB.out.cell (World.block_lt_of_cell? _ _ HY.out)).trans HY.out)) | (go_at_call 85; (refine (feed_rule_keeps.calls k a0_0 _ _ l0_1 _ _ l0_2 _ _ l3 (rd l4 x) _ _ ?side1 ?side2 ?side3 ?side4 ?side5 ?side6 ?sideT E5.out).mono ?_); (case side1 => exact cbz HR0_1); (case side2 => exact HC0_1.out); (case side3 => exact cbz HR0_2); (case side4 => exact HC0_2.out); (case side5 => exact cbz HR3); (case side6 => exact HC3.out); (case sideT => first | exact HT.out | exact Tab.Tabs.below HT.out bel); rintro e wz ⟨rfl, hb⟩; replace BKg1 := Aside0.mk (blk_below (g := g1) blkz hb); replace BKg5 := Aside0.mk (blk_below (g := g5) blkz hb); replace BKg2 := Aside0.mk (blk_below (g := g2) blkz hb); replace HB := Aside0.mk (below_step bel hb); (try clear hb); (try clear kg1_0 fg1_0); have kg1_0 := blkc BKg1.out 0 (.int .i64 a0_0) rfl; have fg1_0 := blk_frozen BKg1.out 0; (try clear kg1_1 fg1_1); have kg1_1 := blkc BKg1.out 1 (.slice A0_1 l0_1.length c0_1) rfl; have fg1_1 := blk_frozen BKg1.out 1; (try clear kg1_2 fg1_2); have kg1_2 := blkc BKg1.out 2 (.slice A0_2 l0_2.length c0_2) rfl; have fg1_2 := blk_frozen BKg1.out 2; (try clear kg5_0 fg5_0); have kg5_0 := blkc BKg5.out 0 (.slice A4 l4.length c4) rfl; have fg5_0 := blk_frozen BKg5.out 0; (try clear kg2_0 fg2_0); have kg2_0 := blkc BKg2.out 0 (.int .i64 a0_0) rfl; have fg2_0 := blk_frozen BKg2.out 0; (try clear kg2_1 fg2_1); have kg2_1 := blkc BKg2.out 1 (.slice A0_1 l0_1.length c0_1) rfl; have fg2_1 := blk_frozen BKg2.out 1; (try clear kg2_2 fg2_2); have kg2_2 := blkc BKg2.out 2 (.slice A0_2 l0_2.length c0_2) rfl; have fg2_2 := blk_frozen BKg2.out 2; (try clear kg2_3 fg2_3); have kg2_3 := blkc BKg2.out 3 (.slice A3 l3.length c3) rfl; have fg2_3 := blk_frozen BKg2.out 3))
        go_ret2
        exact ⟨rfl, bel⟩
       | true =>
        rw [if_pos rfl] at hg
        have HN := Aside0.mk hg
        clear hg hxl
        go_wp2_with (first | ((with_reducible refine gate_callee (f := 52) rfl ?_); refine goesL_ (some 36) rfl rfl Tryd.func52 (by kernel_rfl) rfl #[.agg #[.int .i64 a0_0, .slice A0_1 l0_1.length c0_1, .slice A0_2 l0_2.length c0_2]] rfl mapz ?_; (refine (feed_grid_all.calls a0_0 _ _ l0_1 _ _ l0_2 ta _ ?side1 ?side2 ?side3 ?side4 E3.out).mono ?_); (case side1 => exact cbz HR0_1); (case side2 => exact HC0_1.out); (case side3 => exact cbz HR0_2); (case side4 => exact HC0_2.out); rintro e wz ⟨rfl, hb⟩; refine ⟨_, rfl, ?_⟩; replace BKg1 := Aside0.mk (blk_below (g := g1) blkz hb); replace BKg5 := Aside0.mk (blk_below (g := g5) blkz hb); replace BKg2 := Aside0.mk (blk_below (g := g2) blkz hb); replace HB := Aside0.mk (below_step bel hb); (try clear hb); (try clear kg1_0 fg1_0); have kg1_0 := blkc BKg1.out 0 (.int .i64 a0_0) rfl; have fg1_0 := blk_frozen BKg1.out 0; (try clear kg1_1 fg1_1); have kg1_1 := blkc BKg1.out 1 (.slice A0_1 l0_1.length c0_1) rfl; have fg1_1 := blk_frozen BKg1.out 1; (try clear kg1_2 fg1_2); have kg1_2 := blkc BKg1.out 2 (.slice A0_2 l0_2.length c0_2) rfl; have fg1_2 := blk_frozen BKg1.out 2; (try clear kg5_0 fg5_0); have kg5_0 := blkc BKg5.out 0 (.slice A4 l4.length c4) rfl; have fg5_0 := blk_frozen BKg5.out 0; (try clear kg2_0 fg2_0); have kg2_0 := blkc BKg2.out 0 (.int .i64 a0_0) rfl; have fg2_0 := blk_frozen BKg2.out 0; (try clear kg2_1 fg2_1); have kg2_1 := blkc BKg2.out 1 (.slice A0_1 l0_1.length c0_1) rfl; have fg2_1 := blk_frozen BKg2.out 1; (try clear kg2_2 fg2_2); have kg2_2 := blkc BKg2.out 2 (.slice A0_2 l0_2.length c0_2) rfl; have fg2_2 := blk_frozen BKg2.out 2; (try clear kg2_3 fg2_3); have kg2_3 := blkc BKg2.out 3 (.slice A3 l3.length c3) rfl; have fg2_3 := blk_frozen BKg2.out 3) | ((with_reducible refine gate_callee (f := 53) rfl ?_); refine goesL_ (some 38) rfl rfl Tryd.func53 (by kernel_rfl) rfl #[.int .i64 0, .int .i64 (rd l4 x), .int .i64 (wrap64 (ta - 1))] rfl mapz ?_; (refine (feed_within.calls 0 (rd l4 x) (wrap64 (ta - 1)) _ _ E4.out).mono ?_); rintro e w' ⟨rfl, ⟨nd, rfl⟩⟩; refine ⟨_, rfl, ?_⟩; (try (rw [drewN_self wz]; generalize hq_ : World.drewN wz _ = wz; have n1_ : Aside0 (wz.heap[g1]? = some (.cells #[.int .i64 a0_0, .slice A0_1 l0_1.length c0_1, .slice A0_2 l0_2.length c0_2] 25 (0, 0))) := ⟨by rw [← hq_]; exact blkz⟩; have n2_ : Aside0 (wz.heap[g5]? = some (.cells #[.slice A4 l4.length c4] 28 (0, 0))) := ⟨by rw [← hq_]; exact blkz⟩; have n3_ : Aside0 (wz.heap[g2]? = some (.cells #[.int .i64 a0_0, .slice A0_1 l0_1.length c0_1, .slice A0_2 l0_2.length c0_2, .slice A3 l3.length c3] 96 (0, 0))) := ⟨by rw [← hq_]; exact blkz⟩; have n4_ : Aside0 (Below w.heap.size w wz) := ⟨by rw [← hq_]; exact bel⟩; clear BKg1 BKg5 BKg2 HB hq_; have BKg1 := n1_; have BKg5 := n2_; have BKg2 := n3_; have HB := n4_; clear n1_ n2_ n3_ n4_)); (try clear kg1_0 fg1_0); have kg1_0 := blkc BKg1.out 0 (.int .i64 a0_0) rfl; have fg1_0 := blk_frozen BKg1.out 0; (try clear kg1_1 fg1_1); have kg1_1 := blkc BKg1.out 1 (.slice A0_1 l0_1.length c0_1) rfl; have fg1_1 := blk_frozen BKg1.out 1; (try clear kg1_2 fg1_2); have kg1_2 := blkc BKg1.out 2 (.slice A0_2 l0_2.length c0_2) rfl; have fg1_2 := blk_frozen BKg1.out 2; (try clear kg5_0 fg5_0); have kg5_0 := blkc BKg5.out 0 (.slice A4 l4.length c4) rfl; have fg5_0 := blk_frozen BKg5.out 0; (try clear kg2_0 fg2_0); have kg2_0 := blkc BKg2.out 0 (.int .i64 a0_0) rfl; have fg2_0 := blk_frozen BKg2.out 0; (try clear kg2_1 fg2_1); have kg2_1 := blkc BKg2.out 1 (.slice A0_1 l0_1.length c0_1) rfl; have fg2_1 := blk_frozen BKg2.out 1; (try clear kg2_2 fg2_2); have kg2_2 := blkc BKg2.out 2 (.slice A0_2 l0_2.length c0_2) rfl; have fg2_2 := blk_frozen BKg2.out 2; (try clear kg2_3 fg2_3); have kg2_3 := blkc BKg2.out 3 (.slice A3 l3.length c3) rfl; have fg2_3 := blk_frozen BKg2.out 3; (try have hy0 := (HB.out.cell (World.block_lt_of_cell? _ _ HY.out)).trans HY.out)) | (go_at_call 85; (refine (feed_rule_keeps.calls k a0_0 _ _ l0_1 _ _ l0_2 _ _ l3 (rd l4 x) _ _ ?side1 ?side2 ?side3 ?side4 ?side5 ?side6 ?sideT E5.out).mono ?_); (case side1 => exact cbz HR0_1); (case side2 => exact HC0_1.out); (case side3 => exact cbz HR0_2); (case side4 => exact HC0_2.out); (case side5 => exact cbz HR3); (case side6 => exact HC3.out); (case sideT => first | exact HT.out | exact Tab.Tabs.below HT.out bel); rintro e wz ⟨rfl, hb⟩; replace BKg1 := Aside0.mk (blk_below (g := g1) blkz hb); replace BKg5 := Aside0.mk (blk_below (g := g5) blkz hb); replace BKg2 := Aside0.mk (blk_below (g := g2) blkz hb); replace HB := Aside0.mk (below_step bel hb); (try clear hb); (try clear kg1_0 fg1_0); have kg1_0 := blkc BKg1.out 0 (.int .i64 a0_0) rfl; have fg1_0 := blk_frozen BKg1.out 0; (try clear kg1_1 fg1_1); have kg1_1 := blkc BKg1.out 1 (.slice A0_1 l0_1.length c0_1) rfl; have fg1_1 := blk_frozen BKg1.out 1; (try clear kg1_2 fg1_2); have kg1_2 := blkc BKg1.out 2 (.slice A0_2 l0_2.length c0_2) rfl; have fg1_2 := blk_frozen BKg1.out 2; (try clear kg5_0 fg5_0); have kg5_0 := blkc BKg5.out 0 (.slice A4 l4.length c4) rfl; have fg5_0 := blk_frozen BKg5.out 0; (try clear kg2_0 fg2_0); have kg2_0 := blkc BKg2.out 0 (.int .i64 a0_0) rfl; have fg2_0 := blk_frozen BKg2.out 0; (try clear kg2_1 fg2_1); have kg2_1 := blkc BKg2.out 1 (.slice A0_1 l0_1.length c0_1) rfl; have fg2_1 := blk_frozen BKg2.out 1; (try clear kg2_2 fg2_2); have kg2_2 := blkc BKg2.out 2 (.slice A0_2 l0_2.length c0_2) rfl; have fg2_2 := blk_frozen BKg2.out 2; (try clear kg2_3 fg2_3); have kg2_3 := blkc BKg2.out 3 (.slice A3 l3.length c3) rfl; have fg2_3 := blk_frozen BKg2.out 3))
        rw [← e1]
        go_roundg (l4.length - (x + 1).toNat)
        case measure => have := HI.out; have := HK.out; have := of_eq_true hlt; omega
        case rel => exact ⟨x + 1, by first | rfl | rw [HXW.out], ⟨by have := HI.out; omega, by have := of_eq_true hlt; omega⟩, ⟨rfl⟩, ⟨by rw [show (x + 1).toNat = x.toNat + 1 by have := HI.out; omega, show feed_IsShut.prev l4 (x + 1) = some (rd l4 x) by unfold feed_IsShut.prev; rw [if_pos (by have := HI.out; omega), Int.add_sub_cancel]]; exact HN.out⟩, ⟨blkz⟩, ⟨blkz⟩, ⟨blkz⟩, ⟨bel⟩⟩
    ·
     have b1 : decide (x < (l4.length : Int)) = false := decide_eq_false hlt
     have hg := HG.out
     rw [List.drop_eq_nil_of_le (by have := HI.out; omega), feed_IsShut.go1] at hg
     obtain rfl := Option.some.inj hg
     have H := HE.out
     rw [if_pos rfl] at H
     obtain ⟨b, hgo, H⟩ := Option.bind_eq_some_iff.mp H
     cases H
     have HG1 := Aside0.mk hgo
     clear hgo hg hlt HE HG HI HK
     go_wp2
     clear b1
     clear kg1_0 fg1_0 kg1_1 fg1_1 kg1_2 fg1_2 kg5_0 fg5_0 kg2_0 fg2_0 kg2_1 fg2_1 kg2_2 fg2_2 kg2_3 fg2_3
     go_loopg [62] l4.length (fun kq v62 w' => ∃ x : Int, v62 = .int .i64 x ∧ Aside0 (0 ≤ x ∧ x ≤ l4.length) ∧ Aside0 (kq = l4.length - x.toNat) ∧ Aside0 (feed_IsShut.go2 k a0_0 l0_1 l0_2 l3 l4 (l4.drop x.toNat) = some r1) ∧ Aside0 (w'.heap[g1]? = some (.cells #[.int .i64 a0_0, .slice A0_1 l0_1.length c0_1, .slice A0_2 l0_2.length c0_2] 25 (0, 0))) ∧ Aside0 (w'.heap[g5]? = some (.cells #[.slice A4 l4.length c4] 28 (0, 0))) ∧ Aside0 (w'.heap[g2]? = some (.cells #[.int .i64 a0_0, .slice A0_1 l0_1.length c0_1, .slice A0_2 l0_2.length c0_2, .slice A3 l3.length c3] 96 (0, 0))) ∧ Aside0 (Below w.heap.size w w'))
     case atStart => exact ⟨0, rfl, ⟨by omega, by omega⟩, ⟨rfl⟩, HG1, ⟨blkz⟩, ⟨blkz⟩, ⟨blkz⟩, ⟨bel⟩⟩
     case round =>
      clear HG1 BKg1 BKg5 BKg2 HB
      obtain ⟨x, rfl, HI, HK, HG, BKg1, BKg5, BKg2, HB⟩ := hrel
      (try clear kg1_0 fg1_0)
      have kg1_0 := blkc BKg1.out 0 (.int .i64 a0_0) rfl
      have fg1_0 := blk_frozen BKg1.out 0
      (try clear kg1_1 fg1_1)
      have kg1_1 := blkc BKg1.out 1 (.slice A0_1 l0_1.length c0_1) rfl
      have fg1_1 := blk_frozen BKg1.out 1
      (try clear kg1_2 fg1_2)
      have kg1_2 := blkc BKg1.out 2 (.slice A0_2 l0_2.length c0_2) rfl
      have fg1_2 := blk_frozen BKg1.out 2
      (try clear kg5_0 fg5_0)
      have kg5_0 := blkc BKg5.out 0 (.slice A4 l4.length c4) rfl
      have fg5_0 := blk_frozen BKg5.out 0
      (try clear kg2_0 fg2_0)
      have kg2_0 := blkc BKg2.out 0 (.int .i64 a0_0) rfl
      have fg2_0 := blk_frozen BKg2.out 0
      (try clear kg2_1 fg2_1)
      have kg2_1 := blkc BKg2.out 1 (.slice A0_1 l0_1.length c0_1) rfl
      have fg2_1 := blk_frozen BKg2.out 1
      (try clear kg2_2 fg2_2)
      have kg2_2 := blkc BKg2.out 2 (.slice A0_2 l0_2.length c0_2) rfl
      have fg2_2 := blk_frozen BKg2.out 2
      (try clear kg2_3 fg2_3)
      have kg2_3 := blkc BKg2.out 3 (.slice A3 l3.length c3) rfl
      have fg2_3 := blk_frozen BKg2.out 3
      by_cases hlt : x < (l4.length : Int)
      ·
       have b1 : decide (x < (l4.length : Int)) = true := decide_eq_true hlt
       have p1 : 0 ≤ x := HI.out.1
       have hxl : x.toNat < l4.length := by omega
       have hd : l4.drop x.toNat = rd l4 x :: l4.drop (x.toNat + 1) := by
        rw [show rd l4 x = l4[x.toNat] by simp [rd, List.getD_eq_getElem?_getD, hxl]]; exact List.drop_eq_getElem_cons hxl
       obtain ⟨ad, e1, hx0⟩ := Kd.at_int HR4.out x p1 hlt
       have hg := HG.out
       rw [hd, feed_IsShut.go2] at hg
       obtain ⟨st, A50, hg⟩ := Option.bind_eq_some_iff.mp hg
       have E5 := Aside0.mk A50
       replace hx0 := (HB.out.cell (World.block_lt_of_cell? _ _ hx0)).trans hx0
       have hxw : wrap64 (x + 1) = x + 1 := by unfold wrap64; have := HL4.out; omega
       have HXW := Aside0.mk hxw
       replace p1 := eq_true p1
       replace hlt := eq_true hlt
       clear hd A50 hxw hxl
       by_cases ha : st.any (feed_IsShut.p l4) = true
       ·
        rw [if_pos ha] at hg
        cases hg
        have HP := Aside0.mk ha
        clear ha
        go_wp2_with (first | ((with_reducible refine gate_callee (f := 71) rfl ?_); refine goesL_ (some 68) rfl rfl Tryd.func71 (by kernel_rfl) rfl #[.agg #[.int .i64 a0_0, .slice A0_1 l0_1.length c0_1, .slice A0_2 l0_2.length c0_2, .slice A3 l3.length c3], .int .i64 (rd l4 x)] rfl mapz ?_; (refine (feed_rule_steps.calls k a0_0 _ _ l0_1 _ _ l0_2 _ _ l3 (rd l4 x) st _ ?side1 ?side2 ?side3 ?side4 ?side5 ?side6 ?sideT E5.out).mono ?_); (case side1 => exact cbz HR0_1); (case side2 => exact HC0_1.out); (case side3 => exact cbz HR0_2); (case side4 => exact HC0_2.out); (case side5 => exact cbz HR3); (case side6 => exact HC3.out); (case sideT => first | exact HT.out | exact Tab.Tabs.below HT.out bel); rintro e wz ⟨v68, rfl, ho, hb⟩; refine ⟨_, rfl, ?_⟩; obtain ⟨A68, c68, e68⟩ := Kd.R_slice ho; subst e68; have HO := Aside0.mk ho; clear ho; replace BKg1 := Aside0.mk (blk_below (g := g1) blkz hb); replace BKg5 := Aside0.mk (blk_below (g := g5) blkz hb); replace BKg2 := Aside0.mk (blk_below (g := g2) blkz hb); replace HB := Aside0.mk (below_step bel hb); (try clear hb); (try clear kg1_0 fg1_0); have kg1_0 := blkc BKg1.out 0 (.int .i64 a0_0) rfl; have fg1_0 := blk_frozen BKg1.out 0; (try clear kg1_1 fg1_1); have kg1_1 := blkc BKg1.out 1 (.slice A0_1 l0_1.length c0_1) rfl; have fg1_1 := blk_frozen BKg1.out 1; (try clear kg1_2 fg1_2); have kg1_2 := blkc BKg1.out 2 (.slice A0_2 l0_2.length c0_2) rfl; have fg1_2 := blk_frozen BKg1.out 2; (try clear kg5_0 fg5_0); have kg5_0 := blkc BKg5.out 0 (.slice A4 l4.length c4) rfl; have fg5_0 := blk_frozen BKg5.out 0; (try clear kg2_0 fg2_0); have kg2_0 := blkc BKg2.out 0 (.int .i64 a0_0) rfl; have fg2_0 := blk_frozen BKg2.out 0; (try clear kg2_1 fg2_1); have kg2_1 := blkc BKg2.out 1 (.slice A0_1 l0_1.length c0_1) rfl; have fg2_1 := blk_frozen BKg2.out 1; (try clear kg2_2 fg2_2); have kg2_2 := blkc BKg2.out 2 (.slice A0_2 l0_2.length c0_2) rfl; have fg2_2 := blk_frozen BKg2.out 2; (try clear kg2_3 fg2_3); have kg2_3 := blkc BKg2.out 3 (.slice A3 l3.length c3) rfl; have fg2_3 := blk_frozen BKg2.out 3) | ((with_reducible refine gate_callee (f := 86) rfl ?_); refine goesL_ (some 70) rfl rfl Tryd.func86 (by kernel_rfl) rfl #[.slice A68 st.length c68, .func (.func 87) #[] #[.pointer (some ⟨g5, 0, none⟩)]] rfl mapz ?_; (refine (slices_ContainsFunc_int_int.contains 87 #[.pointer (some ⟨g5, 0, none⟩)] (feed_IsShut.p l4) A68 c68 st _ (Kd.R_reads' HO.out).2.2 (Kd.R_reads' HO.out).2.1 feed_IsShut.enter (fun y _ W hb => feed_IsShut.clos l4 g5 A4 c4 y W ((blk_cell (blk_below (g := g5) blkz hb) 0).trans rfl) (Kd.C_below HR4.out (below_step bel hb)) HC4.out)).mono ?_); rintro e wv ⟨rfl, hb⟩; refine ⟨_, rfl, ?_⟩; rw [HP.out]; replace BKg1 := Aside0.mk (blk_below (g := g1) blkz hb); replace BKg5 := Aside0.mk (blk_below (g := g5) blkz hb); replace BKg2 := Aside0.mk (blk_below (g := g2) blkz hb); replace HB := Aside0.mk (below_step bel hb); (try clear hb); (try clear kg1_0 fg1_0); have kg1_0 := blkc BKg1.out 0 (.int .i64 a0_0) rfl; have fg1_0 := blk_frozen BKg1.out 0; (try clear kg1_1 fg1_1); have kg1_1 := blkc BKg1.out 1 (.slice A0_1 l0_1.length c0_1) rfl; have fg1_1 := blk_frozen BKg1.out 1; (try clear kg1_2 fg1_2); have kg1_2 := blkc BKg1.out 2 (.slice A0_2 l0_2.length c0_2) rfl; have fg1_2 := blk_frozen BKg1.out 2; (try clear kg5_0 fg5_0); have kg5_0 := blkc BKg5.out 0 (.slice A4 l4.length c4) rfl; have fg5_0 := blk_frozen BKg5.out 0; (try clear kg2_0 fg2_0); have kg2_0 := blkc BKg2.out 0 (.int .i64 a0_0) rfl; have fg2_0 := blk_frozen BKg2.out 0; (try clear kg2_1 fg2_1); have kg2_1 := blkc BKg2.out 1 (.slice A0_1 l0_1.length c0_1) rfl; have fg2_1 := blk_frozen BKg2.out 1; (try clear kg2_2 fg2_2); have kg2_2 := blkc BKg2.out 2 (.slice A0_2 l0_2.length c0_2) rfl; have fg2_2 := blk_frozen BKg2.out 2; (try clear kg2_3 fg2_3); have kg2_3 := blkc BKg2.out 3 (.slice A3 l3.length c3) rfl; have fg2_3 := blk_frozen BKg2.out 3))
        go_ret2
        exact ⟨rfl, bel⟩
       ·
        rw [if_neg ha] at hg
        have HP := Aside0.mk (Bool.eq_false_iff.mpr ha)
        have HN := Aside0.mk hg
        clear ha hg
        go_wp2_with (first | ((with_reducible refine gate_callee (f := 71) rfl ?_); refine goesL_ (some 68) rfl rfl Tryd.func71 (by kernel_rfl) rfl #[.agg #[.int .i64 a0_0, .slice A0_1 l0_1.length c0_1, .slice A0_2 l0_2.length c0_2, .slice A3 l3.length c3], .int .i64 (rd l4 x)] rfl mapz ?_; (refine (feed_rule_steps.calls k a0_0 _ _ l0_1 _ _ l0_2 _ _ l3 (rd l4 x) st _ ?side1 ?side2 ?side3 ?side4 ?side5 ?side6 ?sideT E5.out).mono ?_); (case side1 => exact cbz HR0_1); (case side2 => exact HC0_1.out); (case side3 => exact cbz HR0_2); (case side4 => exact HC0_2.out); (case side5 => exact cbz HR3); (case side6 => exact HC3.out); (case sideT => first | exact HT.out | exact Tab.Tabs.below HT.out bel); rintro e wz ⟨v68, rfl, ho, hb⟩; refine ⟨_, rfl, ?_⟩; obtain ⟨A68, c68, e68⟩ := Kd.R_slice ho; subst e68; have HO := Aside0.mk ho; clear ho; replace BKg1 := Aside0.mk (blk_below (g := g1) blkz hb); replace BKg5 := Aside0.mk (blk_below (g := g5) blkz hb); replace BKg2 := Aside0.mk (blk_below (g := g2) blkz hb); replace HB := Aside0.mk (below_step bel hb); (try clear hb); (try clear kg1_0 fg1_0); have kg1_0 := blkc BKg1.out 0 (.int .i64 a0_0) rfl; have fg1_0 := blk_frozen BKg1.out 0; (try clear kg1_1 fg1_1); have kg1_1 := blkc BKg1.out 1 (.slice A0_1 l0_1.length c0_1) rfl; have fg1_1 := blk_frozen BKg1.out 1; (try clear kg1_2 fg1_2); have kg1_2 := blkc BKg1.out 2 (.slice A0_2 l0_2.length c0_2) rfl; have fg1_2 := blk_frozen BKg1.out 2; (try clear kg5_0 fg5_0); have kg5_0 := blkc BKg5.out 0 (.slice A4 l4.length c4) rfl; have fg5_0 := blk_frozen BKg5.out 0; (try clear kg2_0 fg2_0); have kg2_0 := blkc BKg2.out 0 (.int .i64 a0_0) rfl; have fg2_0 := blk_frozen BKg2.out 0; (try clear kg2_1 fg2_1); have kg2_1 := blkc BKg2.out 1 (.slice A0_1 l0_1.length c0_1) rfl; have fg2_1 := blk_frozen BKg2.out 1; (try clear kg2_2 fg2_2); have kg2_2 := blkc BKg2.out 2 (.slice A0_2 l0_2.length c0_2) rfl; have fg2_2 := blk_frozen BKg2.out 2; (try clear kg2_3 fg2_3); have kg2_3 := blkc BKg2.out 3 (.slice A3 l3.length c3) rfl; have fg2_3 := blk_frozen BKg2.out 3) | ((with_reducible refine gate_callee (f := 86) rfl ?_); refine goesL_ (some 70) rfl rfl Tryd.func86 (by kernel_rfl) rfl #[.slice A68 st.length c68, .func (.func 87) #[] #[.pointer (some ⟨g5, 0, none⟩)]] rfl mapz ?_; (refine (slices_ContainsFunc_int_int.contains 87 #[.pointer (some ⟨g5, 0, none⟩)] (feed_IsShut.p l4) A68 c68 st _ (Kd.R_reads' HO.out).2.2 (Kd.R_reads' HO.out).2.1 feed_IsShut.enter (fun y _ W hb => feed_IsShut.clos l4 g5 A4 c4 y W ((blk_cell (blk_below (g := g5) blkz hb) 0).trans rfl) (Kd.C_below HR4.out (below_step bel hb)) HC4.out)).mono ?_); rintro e wv ⟨rfl, hb⟩; refine ⟨_, rfl, ?_⟩; rw [HP.out]; replace BKg1 := Aside0.mk (blk_below (g := g1) blkz hb); replace BKg5 := Aside0.mk (blk_below (g := g5) blkz hb); replace BKg2 := Aside0.mk (blk_below (g := g2) blkz hb); replace HB := Aside0.mk (below_step bel hb); (try clear hb); (try clear kg1_0 fg1_0); have kg1_0 := blkc BKg1.out 0 (.int .i64 a0_0) rfl; have fg1_0 := blk_frozen BKg1.out 0; (try clear kg1_1 fg1_1); have kg1_1 := blkc BKg1.out 1 (.slice A0_1 l0_1.length c0_1) rfl; have fg1_1 := blk_frozen BKg1.out 1; (try clear kg1_2 fg1_2); have kg1_2 := blkc BKg1.out 2 (.slice A0_2 l0_2.length c0_2) rfl; have fg1_2 := blk_frozen BKg1.out 2; (try clear kg5_0 fg5_0); have kg5_0 := blkc BKg5.out 0 (.slice A4 l4.length c4) rfl; have fg5_0 := blk_frozen BKg5.out 0; (try clear kg2_0 fg2_0); have kg2_0 := blkc BKg2.out 0 (.int .i64 a0_0) rfl; have fg2_0 := blk_frozen BKg2.out 0; (try clear kg2_1 fg2_1); have kg2_1 := blkc BKg2.out 1 (.slice A0_1 l0_1.length c0_1) rfl; have fg2_1 := blk_frozen BKg2.out 1; (try clear kg2_2 fg2_2); have kg2_2 := blkc BKg2.out 2 (.slice A0_2 l0_2.length c0_2) rfl; have fg2_2 := blk_frozen BKg2.out 2; (try clear kg2_3 fg2_3); have kg2_3 := blkc BKg2.out 3 (.slice A3 l3.length c3) rfl; have fg2_3 := blk_frozen BKg2.out 3))
        rw [← e1]
        go_roundg (l4.length - (x + 1).toNat)
        case measure => have := HI.out; have := HK.out; have := of_eq_true hlt; omega
        case rel => exact ⟨x + 1, by first | rfl | rw [HXW.out], ⟨by have := HI.out; omega, by have := of_eq_true hlt; omega⟩, ⟨rfl⟩, ⟨by rw [show (x + 1).toNat = x.toNat + 1 by have := HI.out; omega]; exact HN.out⟩, ⟨blkz⟩, ⟨blkz⟩, ⟨blkz⟩, ⟨bel⟩⟩
      ·
       have b1 : decide (x < (l4.length : Int)) = false := decide_eq_false hlt
       have hg := HG.out
       rw [List.drop_eq_nil_of_le (by have := HI.out; omega), feed_IsShut.go2] at hg
       obtain rfl := Option.some.inj hg
       clear hlt hg HG HI HK
       go_wp2
       go_ret2
       exact ⟨rfl, bel⟩
  ·
   rw [if_neg c1] at H
   have b0 : (te != 0) = true := bne_iff_ne.mpr c1
   clear c1
   cases H
   go_wp2_with (first | ((with_reducible refine gate_callee (f := 19) rfl ?_); refine goesL_ (some 19) rfl rfl Tryd.func19 (by kernel_rfl) rfl #[.agg #[.int .i64 a0_0, .slice A0_1 l0_1.length c0_1, .slice A0_2 l0_2.length c0_2]] rfl mapz ?_; (refine (feed_Valid.calls a0_0 _ _ l0_1 _ _ l0_2 _ _ ?side1 ?side2 ?side3 ?side4 E1.out).mono ?_); (case side1 => exact cbz HR0_1); (case side2 => exact HC0_1.out); (case side3 => exact cbz HR0_2); (case side4 => exact HC0_2.out); rintro e wz ⟨rfl, hb⟩; refine ⟨_, rfl, ?_⟩; replace BKg1 := Aside0.mk (blk_below (g := g1) blkz hb); replace BKg5 := Aside0.mk (blk_below (g := g5) blkz hb); replace BKg2 := Aside0.mk (blk_below (g := g2) blkz hb); replace HB := Aside0.mk (below_step bel hb); (try clear hb); (try clear kg1_0 fg1_0); have kg1_0 := blkc BKg1.out 0 (.int .i64 a0_0) rfl; have fg1_0 := blk_frozen BKg1.out 0; (try clear kg1_1 fg1_1); have kg1_1 := blkc BKg1.out 1 (.slice A0_1 l0_1.length c0_1) rfl; have fg1_1 := blk_frozen BKg1.out 1; (try clear kg1_2 fg1_2); have kg1_2 := blkc BKg1.out 2 (.slice A0_2 l0_2.length c0_2) rfl; have fg1_2 := blk_frozen BKg1.out 2; (try clear kg5_0 fg5_0); have kg5_0 := blkc BKg5.out 0 (.slice A4 l4.length c4) rfl; have fg5_0 := blk_frozen BKg5.out 0; (try clear kg2_0 fg2_0); have kg2_0 := blkc BKg2.out 0 (.int .i64 a0_0) rfl; have fg2_0 := blk_frozen BKg2.out 0; (try clear kg2_1 fg2_1); have kg2_1 := blkc BKg2.out 1 (.slice A0_1 l0_1.length c0_1) rfl; have fg2_1 := blk_frozen BKg2.out 1; (try clear kg2_2 fg2_2); have kg2_2 := blkc BKg2.out 2 (.slice A0_2 l0_2.length c0_2) rfl; have fg2_2 := blk_frozen BKg2.out 2; (try clear kg2_3 fg2_3); have kg2_3 := blkc BKg2.out 3 (.slice A3 l3.length c3) rfl; have fg2_3 := blk_frozen BKg2.out 3) | ((with_reducible refine gate_callee (f := 84) rfl ?_); refine goesL_ (some 22) rfl rfl Tryd.func84 (by kernel_rfl) rfl #[.agg #[.int .i64 a0_0, .slice A0_1 l0_1.length c0_1, .slice A0_2 l0_2.length c0_2, .slice A3 l3.length c3]] rfl mapz ?_; (refine (feed_rule_kept.calls k a0_0 _ _ l0_1 _ _ l0_2 _ _ l3 _ _ ?side1 ?side2 ?side3 ?side4 ?side5 ?side6 E2.out).mono ?_); (case side1 => exact cbz HR0_1); (case side2 => exact HC0_1.out); (case side3 => exact cbz HR0_2); (case side4 => exact HC0_2.out); (case side5 => exact cbz HR3); (case side6 => exact HC3.out); rintro e wz ⟨rfl, hb⟩; refine ⟨_, rfl, ?_⟩; replace BKg1 := Aside0.mk (blk_below (g := g1) blkz hb); replace BKg5 := Aside0.mk (blk_below (g := g5) blkz hb); replace BKg2 := Aside0.mk (blk_below (g := g2) blkz hb); replace HB := Aside0.mk (below_step bel hb); (try clear hb); (try clear kg1_0 fg1_0); have kg1_0 := blkc BKg1.out 0 (.int .i64 a0_0) rfl; have fg1_0 := blk_frozen BKg1.out 0; (try clear kg1_1 fg1_1); have kg1_1 := blkc BKg1.out 1 (.slice A0_1 l0_1.length c0_1) rfl; have fg1_1 := blk_frozen BKg1.out 1; (try clear kg1_2 fg1_2); have kg1_2 := blkc BKg1.out 2 (.slice A0_2 l0_2.length c0_2) rfl; have fg1_2 := blk_frozen BKg1.out 2; (try clear kg5_0 fg5_0); have kg5_0 := blkc BKg5.out 0 (.slice A4 l4.length c4) rfl; have fg5_0 := blk_frozen BKg5.out 0; (try clear kg2_0 fg2_0); have kg2_0 := blkc BKg2.out 0 (.int .i64 a0_0) rfl; have fg2_0 := blk_frozen BKg2.out 0; (try clear kg2_1 fg2_1); have kg2_1 := blkc BKg2.out 1 (.slice A0_1 l0_1.length c0_1) rfl; have fg2_1 := blk_frozen BKg2.out 1; (try clear kg2_2 fg2_2); have kg2_2 := blkc BKg2.out 2 (.slice A0_2 l0_2.length c0_2) rfl; have fg2_2 := blk_frozen BKg2.out 2; (try clear kg2_3 fg2_3); have kg2_3 := blkc BKg2.out 3 (.slice A3 l3.length c3) rfl; have fg2_3 := blk_frozen BKg2.out 3))
   go_ret2
   exact ⟨rfl, bel⟩

end Go.Proofs.YtoilhnmdemnknaaDoor.XFeed