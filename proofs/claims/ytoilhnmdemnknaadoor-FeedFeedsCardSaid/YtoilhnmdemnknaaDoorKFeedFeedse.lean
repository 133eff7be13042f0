-- Written by wip/pack.py of this repo: texts of this claim, put together.
import Derived.Test.YtoilhnmdemnknaaDoorKFeedFeedsd
namespace Go.Proofs.YtoilhnmdemnknaaDoor.XFeed
open Go.RowKit Go.Proofs.YtoilhnmdemnknaaDoorW.PrintWords Go.Proofs.YtoilhnmdemnknaaDoorW.PrintLast Go.Proofs.YtoilhnmdemnknaaDoorW.PrintMore
attribute [local go_sem] max2_int min2_int max_two min_two max_three min_three max_four min_four   -- for this text's walks alone
set_option linter.unusedVariables false
set_option linter.unusedSimpArgs false
/-! ### dropperref05_leads: function 101 -/
mutual
def dropperref05_leads.l0 : Nat → Int → Int → List Int → List Bool → Int → Int → Int → List (S69) → List (S71) → Option (Bool)
 | 0, _, _, _, _, _, _, _, _, _ => none
 | k + 1, x1, x3, x4, x11, x12, x13, x643000, x643001, x643002 => if x13 < (x4.length : Int) then (if 0 ≤ x13 then (if (rd x4 x13) < 0 then (dropperref05_leads.j1 k x1 x3 x4 x11 x12 x13 true x643000 x643001 x643002) else (if (rd x4 x13) ≥ (x643001.length : Int) then (dropperref05_leads.j1 k x1 x3 x4 x11 x12 x13 true x643000 x643001 x643002) else ((dropperref05_closed.f x1 (rd x4 x13)).bind fun t650 => (dropperref05_leads.j1 k x1 x3 x4 x11 x12 x13 (!t650) x643000 x643001 x643002)))) else (none)) else (some (x12 == x3))
def dropperref05_leads.j1 : Nat → Int → Int → List Int → List Bool → Int → Int → Bool → Int → List (S69) → List (S71) → Option (Bool)
 | 0, _, _, _, _, _, _, _, _, _, _ => none
 | k + 1, x1, x3, x4, x11, x12, x13, x52, x643000, x643001, x643002 => if x52 = true then (some false) else (if 0 ≤ x13 then (if x13 < (x4.length : Int) then (if 0 ≤ (rd x4 x13) then (if (rd x4 x13) < (x643001.length : Int) then (if x12 = ((rd_T69 x643001 (rd x4 x13)).f0) then (if 0 ≤ ((rd_T69 x643001 (rd x4 x13)).f1) then (if ((rd_T69 x643001 (rd x4 x13)).f1) < (x11.length : Int) then (if rdOf false x11 ((rd_T69 x643001 (rd x4 x13)).f1) = true then (some false) else (dropperref05_leads.l0 k x1 x3 x4 (x11.set (((rd_T69 x643001 (rd x4 x13)).f1) : Int).toNat true) ((rd_T69 x643001 (rd x4 x13)).f1) (wrap64 (x13 + 1)) x643000 x643001 x643002)) else (none)) else (none)) else (if x12 = ((rd_T69 x643001 (rd x4 x13)).f1) then (if 0 ≤ ((rd_T69 x643001 (rd x4 x13)).f0) then (if ((rd_T69 x643001 (rd x4 x13)).f0) < (x11.length : Int) then (if rdOf false x11 ((rd_T69 x643001 (rd x4 x13)).f0) = true then (some false) else (dropperref05_leads.l0 k x1 x3 x4 (x11.set (((rd_T69 x643001 (rd x4 x13)).f0) : Int).toNat true) ((rd_T69 x643001 (rd x4 x13)).f0) (wrap64 (x13 + 1)) x643000 x643001 x643002)) else (none)) else (none)) else (some false))) else (none)) else (none)) else (none)) else (none))
end
def dropperref05_leads.f (k : Nat) (a0_0 : Int) (l0_1 : List (S69)) (l0_2 : List (S71)) (a1 : Int) (a2 : Int) (a3 : Int) (l4 : List Int) : Option (Bool) := if 0 ≤ a0_0 then (if (a0_0 : Int).toNat ≤ 281474976710656 then ((some (List.replicate (a0_0 : Int).toNat false : List Bool)).bind fun y643 => (if 0 ≤ a2 then (if a2 < (y643.length : Int) then (dropperref05_leads.l0 k a1 a3 l4 (y643.set (a2 : Int).toNat true) a2 0 a0_0 l0_1 l0_2) else (none)) else (none))) else (none)) else (none)
theorem dropperref05_leads.mono_l : ∀ k, (∀ y0 y1 y2 y3 y4 y5 y6 y7 y8, LeO (dropperref05_leads.l0 k y0 y1 y2 y3 y4 y5 y6 y7 y8) (dropperref05_leads.l0 (k + 1) y0 y1 y2 y3 y4 y5 y6 y7 y8)) ∧ (∀ y0 y1 y2 y3 y4 y5 y6 y7 y8 y9, LeO (dropperref05_leads.j1 k y0 y1 y2 y3 y4 y5 y6 y7 y8 y9) (dropperref05_leads.j1 (k + 1) y0 y1 y2 y3 y4 y5 y6 y7 y8 y9))
 | 0 => ⟨fun _ _ _ _ _ _ _ _ _ r h => by simp [dropperref05_leads.l0] at h, fun _ _ _ _ _ _ _ _ _ _ r h => by simp [dropperref05_leads.j1] at h⟩
 | k + 1 => by
  obtain ⟨ih0, ih1⟩ := dropperref05_leads.mono_l k
  refine ⟨?_, ?_⟩
  ·
   intro y0 y1 y2 y3 y4 y5 y6 y7 y8
   unfold dropperref05_leads.l0
   repeat' first
   | (with_reducible exact ih0 _ _ _ _ _ _ _ _ _)
   | (with_reducible exact ih1 _ _ _ _ _ _ _ _ _ _)
   | (with_reducible exact LeO.refl _)
   | (with_reducible exact LeO.none _)
   | (with_reducible refine LeO.ite ?_ ?_)
   | (with_reducible refine LeO.bind ?_ (fun _ => ?_))
   | exact ih0 _ _ _ _ _ _ _ _ _
   | exact ih1 _ _ _ _ _ _ _ _ _ _
   | exact LeO.none _
   | refine LeO.ite ?_ ?_
   | refine LeO.bind ?_ (fun _ => ?_)
  ·
   intro y0 y1 y2 y3 y4 y5 y6 y7 y8 y9
   unfold dropperref05_leads.j1
   repeat' first
   | (with_reducible exact ih0 _ _ _ _ _ _ _ _ _)
   | (with_reducible exact ih1 _ _ _ _ _ _ _ _ _ _)
   | (with_reducible exact LeO.refl _)
   | (with_reducible exact LeO.none _)
   | (with_reducible refine LeO.ite ?_ ?_)
   | (with_reducible refine LeO.bind ?_ (fun _ => ?_))
   | exact ih0 _ _ _ _ _ _ _ _ _
   | exact ih1 _ _ _ _ _ _ _ _ _ _
   | exact LeO.none _
   | refine LeO.ite ?_ ?_
   | refine LeO.bind ?_ (fun _ => ?_)
theorem dropperref05_leads.mono : ∀ a0 a1 a2 a3 a4 a5 a6 k, LeO (dropperref05_leads.f k a0 a1 a2 a3 a4 a5 a6) (dropperref05_leads.f (k + 1) a0 a1 a2 a3 a4 a5 a6) := by
 intro a0 a1 a2 a3 a4 a5 a6 k
 obtain ⟨ih0, ih1⟩ := dropperref05_leads.mono_l k
 unfold dropperref05_leads.f
 repeat' first
   | (with_reducible exact ih0 _ _ _ _ _ _ _ _ _)
   | (with_reducible exact ih1 _ _ _ _ _ _ _ _ _ _)
   | (with_reducible exact LeO.refl _)
   | (with_reducible exact LeO.none _)
   | (with_reducible refine LeO.ite ?_ ?_)
   | (with_reducible refine LeO.bind ?_ (fun _ => ?_))
   | exact ih0 _ _ _ _ _ _ _ _ _
   | exact ih1 _ _ _ _ _ _ _ _ _ _
   | exact LeO.none _
   | refine LeO.ite ?_ ?_
   | refine LeO.bind ?_ (fun _ => ?_)
def dropperref05_leads.T7 : Bool × List (List Nat × List Nat) := (true, [([], []), ([], []), ([0, 1], [0, 1]), ([2], [2]), ([3], [3]), ([4], [4]), ([5], [5]), ([5], [5]), ([6, 7, 5], [5, 6, 7]), ([8, 5], [5, 8]), ([5], [5]), ([10, 5], [5, 10]), ([11, 5], [5, 11]), ([9, 12, 5], [5, 9, 12]), ([5, 13], [5, 13]), ([14, 5], [14]), ([15], [15]), ([15], [15]), ([15], [15]), ([17, 18, 15], [15, 17, 18]), ([19, 15], [15, 19]), ([16, 20, 15, 15], [15, 16, 20]), ([21, 15], [15, 21]), ([15, 22], [15, 22])])
def dropperref05_leads.B7 : List Nat := [0, 0, 3, 7, 15, 31, 63, 63, 255, 511, 63, 1087, 3135, 8191, 16383, 32767, 65535, 65535, 65535, 458751, 983039, 2097151, 4194303, 8388607]
theorem dropperref05_leads.tab7 : rtab .any (opsOf Tryd.f101 7) = dropperref05_leads.T7 := by kernel_rfl
theorem dropperref05_leads.bits7 : waitsOk dropperref05_leads.T7.2 dropperref05_leads.B7 = true := by kernel_rfl
def dropperref05_leads.T9 : Bool × List (List Nat × List Nat) := (true, [([], []), ([0], [0]), ([], []), ([], []), ([2, 3], [2, 3]), ([4], [4]), ([1, 5], [1, 5]), ([6], [6]), ([], []), ([8, 7, 0, 1, 2, 3, 4, 5, 6, 7, 8], [7, 8])])
def dropperref05_leads.B9 : List Nat := [0, 1, 0, 0, 12, 28, 63, 127, 0, 511]
theorem dropperref05_leads.tab9 : rtab .any (opsOf Tryd.f101 9) = dropperref05_leads.T9 := by kernel_rfl
theorem dropperref05_leads.bits9 : waitsOk dropperref05_leads.T9.2 dropperref05_leads.B9 = true := by kernel_rfl
set_option maxHeartbeats 8000000 in
set_option maxRecDepth 100000 in
theorem dropperref05_leads.calls (k : Nat) (a0_0 : Int) (A0_1 : Option Addr) (c0_1 : Nat) (l0_1 : List (S69)) (A0_2 : Option Addr) (c0_2 : Nat) (l0_2 : List (S71)) (a1 : Int) (a2 : Int) (a3 : Int) (A4 : Option Addr) (c4 : Nat) (l4 : List Int) (r : Bool) (w : World) (hr0_1 : Kd.C k69 w A0_1 l0_1.length l0_1) (hc0_1 : l0_1.length ≤ c0_1) (hr0_2 : Kd.C k71 w A0_2 l0_2.length l0_2) (hc0_2 : l0_2.length ≤ c0_2) (hr4 : Kd.C (Kd.int .i64) w A4 l4.length l4) (hc4 : l4.length ≤ c4) (h : dropperref05_leads.f k a0_0 l0_1 l0_2 a1 a2 a3 l4 = some r) :
  Calls Tryd.prog 101 #[.agg #[.int .i64 a0_0, .slice A0_1 l0_1.length c0_1, .slice A0_2 l0_2.length c0_2], .int .i64 a1, .int .i64 a2, .int .i64 a3, .slice A4 l4.length c4] w fun e w' => e = .returned (.bool r) ∧ Below w.heap.size w w' := by
 have hu25 := Tryd.underlying25
 have hu69 := Tryd.underlying69
 have HR0_1 := Aside0.mk hr0_1
 have HC0_1 := Aside0.mk hc0_1
 clear hr0_1 hc0_1
 have HR0_2 := Aside0.mk hr0_2
 have HC0_2 := Aside0.mk hc0_2
 clear hr0_2 hc0_2
 have HR4 := Aside0.mk hr4
 have HC4 := Aside0.mk hc4
 clear hr4 hc4
 have HB := Aside0.mk (Below.refl w.heap.size w)
 have H : (if 0 ≤ a0_0 then (if (a0_0 : Int).toNat ≤ 281474976710656 then ((some (List.replicate (a0_0 : Int).toNat false : List Bool)).bind fun y643 => (if 0 ≤ a2 then (if a2 < (y643.length : Int) then (dropperref05_leads.l0 k a1 a3 l4 (y643.set (a2 : Int).toNat true) a2 0 a0_0 l0_1 l0_2) else (none)) else (none))) else (none)) else (none)) = some r := h
 clear h
 by_cases c6 : 0 ≤ a0_0
 ·
  rw [if_pos c6] at H
  have c6b0 := eq_true c6
  have c6b1 : decide (0 ≤ a0_0) = true := decide_eq_true c6
  clear c6
  by_cases c7 : (a0_0 : Int).toNat ≤ 281474976710656
  ·
   rw [if_pos c7] at H
   have c7b0 := eq_true c7
   have c7b1 : decide ((a0_0 : Int).toNat ≤ 281474976710656) = true := decide_eq_true c7
   clear c7
   obtain ⟨y643, hy643⟩ : ∃ y_ : List Bool, y_ = (List.replicate (a0_0 : Int).toNat false) := ⟨_, rfl⟩
   replace H : (if 0 ≤ a2 then (if a2 < (y643.length : Int) then (dropperref05_leads.l0 k a1 a3 l4 (y643.set (a2 : Int).toNat true) a2 0 a0_0 l0_1 l0_2) else (none)) else (none)) = some r := by first | (rw [hy643]; with_reducible exact H) | (have H2_ := (Option.bind_some _ _).symm.trans H; rw [hy643]; with_reducible exact H2_) | (have H2_ := (Option.bind_some _ _).symm.trans H; with_reducible exact H2_) | with_reducible exact H | (rw [hy643]; exact H) | exact H
   have Ny643 := Aside0.mk hy643
   clear hy643
   by_cases c8 : 0 ≤ a2
   ·
    rw [if_pos c8] at H
    have c8b0 : decide (0 ≤ a2) = true := decide_eq_true c8
    clear c8
    by_cases c9 : a2 < (y643.length : Int)
    ·
     rw [if_pos c9] at H
     have c9b0 : decide (a2 < (y643.length : Int)) = true := decide_eq_true c9
     clear c9
     obtain ⟨y646, hy646⟩ : ∃ y_ : List Bool, y_ = (y643.set (a2 : Int).toNat true) := ⟨_, rfl⟩
     replace H : (dropperref05_leads.l0 k a1 a3 l4 y646 a2 0 a0_0 l0_1 l0_2) = some r := by first | (rw [hy646]; with_reducible exact H) | (have H2_ := (Option.bind_some _ _).symm.trans H; rw [hy646]; with_reducible exact H2_) | (have H2_ := (Option.bind_some _ _).symm.trans H; with_reducible exact H2_) | with_reducible exact H | (rw [hy646]; exact H) | exact H
     have Ny646 := Aside0.mk hy646
     clear hy646
     have H' := Aside0.mk H
     clear H
     go_enter Tryd.func101, Tryd.ntmps101
     go_wp2_with (first | ((with_reducible refine gate_dst (N := 5) rfl ?_); (try (refine gate_guard (by rfl) ?_; dsimp only)); refine box_event ?hg (N := 5) ?hd (cs := #[.int .i64 a0_0, .slice A0_1 l0_1.length c0_1, .slice A0_2 l0_2.length c0_2]) (t := 25) ?hr ?_; (case hd => rfl); (case hg => rfl); (case hr => first | (go_simp; done) | (go_simp; rfl)); intro gb642 hg w11 hbox hb; have BK642 := Aside0.mk (hbox); have GW642 := bsz (w := w) hg; have GE642 := GW642; replace HB := Aside0.mk (below_step bel hb); clear hb hbox hg; have hcz12_0 := blkc BK642.out 0 (.int .i64 a0_0) rfl; have hcz12_1 := blkc BK642.out 1 (.slice A0_1 l0_1.length c0_1) rfl; have hcz12_2 := blkc BK642.out 2 (.slice A0_2 l0_2.length c0_2) rfl) | ((with_reducible refine gate_dst (N := 18) rfl ?_); (try (refine gate_guard (by rfl) ?_; dsimp only)); refine Kd.R_make Kd.bool _ 4 rfl (N := 18) rfl 92 _ _ rfl a0_0 rfl rfl Tryd.underlying92 (.bool false) 1 info4 rfl (by decide) (by omega) false (ok := fun _ => True) (okp := fun _ => True) rfl (fun _ hk => hk) trivial (of_decide_eq_true asz) (Nat.le_trans (Nat.mul_le_mul_right _ (of_decide_eq_true asz : a0_0.toNat ≤ 281474976710656)) (by omega)) (Below.refl _ _) (Nat.le_refl _) ?_; intro v644 w13 ho14 hb hg_ hnew_; clear hg_ hnew_; (first | rw [← Ny643.out] at ho14 | (simp only [Int.reduceToNat] at ho14; rw [← Ny643.out] at ho14)); have HO645 := Aside0.mk (Kd.R_lower ho14 (below_size bel)); replace BK642 := Aside0.mk (blk_below (g := gb642) blkz hb); replace HB := Aside0.mk (below_step bel hb); clear hb ho14; have p10 : 0 ≤ (a2 : Int) := of_decide_eq_true asz; have q10 : (a2 : Int) < ((y643.length : Int) : Int) := of_decide_eq_true asz; obtain ⟨go10, co10, eo10, gb10, gl10, cl10, HG10⟩ := Kd.R_form HO645.out (by omega); (first | cases eo10 | (injection eo10 with ea_ en_ ec_; (first | subst ea_ | (injection ea_ with ea_; subst ea_)); subst ec_; clear en_)); have GB10 := Aside0.mk gb10; have GG10 := Aside0.mk HG10; clear gb10 gl10 HG10; obtain ⟨hx10_0, hf10_0⟩ := Kd.R_celln false HO645.out (a2 : Int) p10 q10; replace p10 := eq_true p10; replace q10 := eq_true q10; obtain ⟨hy15_, hz15_⟩ := Kd.R_celln false HO645.out (a2 : Int) (of_decide_eq_true asz) (of_decide_eq_true asz); have HP15 := Kd.R_putg HO645.out (a2 : Int) true) | ((with_reducible refine gate_store (t := 4) (p := 21) rfl ?_); refine store_event (t := 4) (p := 21) (v := ?vo_w16) (w1 := (w13.setCell ⟨go10, (a2 : Int).toNat, none⟩ (.bool true))) ?hg ?ho ?hn ?hr ?_; (case ho => rfl); (case hg => rfl); (case hn => rfl); (case hr => first | (go_simp; done) | (go_simp; rfl)); intro w16 hw; have hg : w13.grownBy w16 (some go10) := (by rw [hw]; exact HP15.2); have hp_ : Kd.R Kd.bool 4 w16 w.heap.size (fun _ => True) (.slice (some ⟨go10, 0, none⟩) y643.length co10) y646 := (by rw [hw, Ny646.out]; exact HP15.1); clear HP15; replace BK642 := Aside0.mk (blk_grown (g := gb642) (o := .cells #[.int .i64 a0_0, .slice A0_1 l0_1.length c0_1, .slice A0_2 l0_2.length c0_2] 25 (0, 0)) blkz hg (Kd.R_ne HO645.out BK642.out (by decide))); replace HO645 := Aside0.mk (hp_); replace HB := Aside0.mk ((by rw [hw]; exact below_set (HB.out) GB10.out : Below w.heap.size w w16)); clear hg hw hp_))
     go_loopg [12, 13] k (fun kq v12 v13 w' => ∃ (x11_1 : List Bool) (x12_1 : Int) (x13_1 : Int), v12 = .int .i64 x12_1 ∧ v13 = .int .i64 x13_1 ∧ Aside0 (dropperref05_leads.l0 kq a1 a3 l4 x11_1 x12_1 x13_1 a0_0 l0_1 l0_2 = some r) ∧ Aside0 (kq ≤ k) ∧ Aside0 (Kd.R Kd.bool 4 w' w.heap.size (fun _ => True) (.slice (some ⟨go10, 0, none⟩) y643.length co10) x11_1) ∧ Aside0 (w'.heap[gb642]? = some (.cells #[.int .i64 a0_0, (.slice A0_1 l0_1.length c0_1), (.slice A0_2 l0_2.length c0_2)] 25 (0, 0))) ∧ Aside0 (Below w.heap.size w w'))
     case atStart => exact ⟨(y646), (a2), (0), rsz, rsz, H', ⟨Nat.le_refl _⟩, ⟨by (with_reducible repeat (first | apply Kd.R_alloc | apply Kd.R_drewN | apply Kd.R_drew)); exact HO645.out⟩, ⟨blkz⟩, ⟨bel⟩⟩
     case round =>
      clear H'
      try clear c1
      try clear p1
      try clear q1
      try clear hx1
      try clear p2
      try clear c4
      try clear c6
      try clear c6b0
      try clear c6b1
      try clear c7
      try clear c7b0
      try clear c7b1
      try clear c8
      try clear c8b0
      try clear c9
      try clear c9b0
      try clear c10
      try clear p10
      try clear q10
      try clear hx10
      try clear hf10
      try clear hcz12_0
      try clear hcz12_1
      try clear hcz12_2
      try clear hfz12_0
      try clear hfz12_1
      try clear hfz12_2
      try clear hx10_0
      try clear p10
      try clear q10
      obtain ⟨x11_1, x12_1, x13_1, rfl, rfl, HA, HK1, HO_11, BK642, HB⟩ := hrel
      have hl11_1 := (Kd.R_reads' HO_11.out).1
      rw [hl11_1] at HO_11
      (try simp only [hl11_1])
      (try simp only [hl11_1] at BK642)
      cases gk with
      | zero => exact absurd HA.out (by simp [dropperref05_leads.l0])
      | succ k1 =>
       have H := HA.out
       clear HA
       simp only [dropperref05_leads.l0] at H
       by_cases c17 : x13_1 < (l4.length : Int)
       ·
        rw [if_pos c17] at H
        have c17b0 : decide (x13_1 < (l4.length : Int)) = true := decide_eq_true c17
        try (have c17b0hl11_1 := c17b0; simp only [hl11_1] at c17b0hl11_1)
        clear c17
        have HC18 := Aside0.mk H
        clear H
        go_upto_region 7 with (fail)
        go_cut [52] (fun v52 wc => ∃ (kq : Nat) (x52_17 : Bool), v52 = .bool x52_17 ∧ Aside0 (dropperref05_leads.j1 kq a1 a3 l4 x11_1 x12_1 x13_1 x52_17 a0_0 l0_1 l0_2 = some r) ∧ Aside0 (kq ≤ k1) ∧ Aside0 (Kd.R Kd.bool 4 wc w.heap.size (fun _ => True) (.slice (some ⟨go10, 0, none⟩) x11_1.length co10) x11_1) ∧ Aside0 (wc.heap[gb642]? = some (.cells #[.int .i64 a0_0, (.slice A0_1 l0_1.length c0_1), (.slice A0_2 l0_2.length c0_2)] 25 (0, 0))) ∧ Aside0 (Below w.heap.size w wc))
        case first =>
         have H := HC18.out
         clear HC18
         by_cases c19 : 0 ≤ x13_1
         ·
          rw [if_pos c19] at H
          have c19b0 : decide (0 ≤ x13_1) = true := decide_eq_true c19
          clear c19
          (first | rw [c19b0] | (simp only [i64_w, i32_w]; rw [c19b0]) | skip)
          by_cases c20 : (rd l4 x13_1) < 0
          ·
           rw [if_pos c20] at H
           have c20b0 : decide ((rd l4 x13_1) < 0) = true := decide_eq_true c20
           clear c20
           have H' := Aside0.mk H
           clear H
           try go_wp2
           have n0_ := Aside0.mk (Kd.R_drew HO_11.out)
           have n1_ := Aside0.mk (blk_drew BK642.out)
           have n2_ := Aside0.mk (below_drew1 HB.out)
           clear HO_11
           clear BK642
           clear HB
           have HO_11 := n0_
           have BK642 := n1_
           have HB := n2_
           clear n0_ n1_ n2_
           have p647 : 0 ≤ (x13_1 : Int) := of_decide_eq_true asz
           have q647 : x13_1 < (l4.length : Int) := of_decide_eq_true asz
           obtain ⟨ad647, e647, hx647_0⟩ := Kd.at_int HR4.out x13_1 p647 q647
           have hw647_0 := hx647_0
           cases e647
           replace hx647_0 := (HB.out.cell (World.block_lt_of_cell? w _ hx647_0)).trans hx647_0
           replace p647 := eq_true p647
           replace q647 := eq_true q647
           refine start_ (n := 24) (S := fun w' => w'.cell? (ad647.add (x13_1).toNat) = some (.int .i64 (rd l4 x13_1))) (ds := []) #[false, false, false, false, false, false, false, false, false, false, false, false, false, false, false, false, false, false, false, false, false, false, false, false] (by kernel_rfl) rfl rfl (((HB.out.cell (World.block_lt_of_cell? w _ hw647_0)).trans hw647_0)) (fun hHeld => ?_); refine with_tabW dropperref05_leads.tab7 dropperref05_leads.bits7 (fun HT_ HW_ => ?_)
           generalize wr.drew = w21 at HO_11 BK642 HB hx647_0 hHeld ⊢
           refine pst (i := 0) (N := some 29) (bz 24 1) (any_of HT_.out (by kernel_rfl)) ?_
           refine pst (i := 1) (N := some 30) (bz 24 3) (any_of HT_.out (by kernel_rfl)) ?_
           refine pst (i := 2) (N := some 31) (bz 24 7) (any_of HT_.out (by kernel_rfl)) ?_
           refine tst1 (i := 3) (N := some 32) (bz 24 15) (take_ofW HT_.out HW_.out (by kernel_rfl)) hHeld ?_
           refine pst (i := 4) (N := some 33) (bz 24 31) (any_of HT_.out (by kernel_rfl)) ?_
           refine pst (i := 5) (N := some 34) (bz 24 63) (any_of HT_.out (by kernel_rfl)) ?_
           refine pso (i := 6) (N := some 35) (bz 24 127) (any_of HT_.out (by kernel_rfl)) ?_
           refine pso (i := 7) (N := some 36) (bz 24 255) (any_of HT_.out (by kernel_rfl)) ?_
           refine pso (i := 8) (N := some 37) (bz 24 511) (any_of HT_.out (by kernel_rfl)) ?_
           refine pso (i := 9) (N := some 38) (bz 24 1023) (any_of HT_.out (by kernel_rfl)) ?_
           refine pso (i := 10) (N := some 39) (bz 24 2047) (any_of HT_.out (by kernel_rfl)) ?_
           refine pso (i := 11) (N := some 40) (bz 24 4095) (any_of HT_.out (by kernel_rfl)) ?_
           refine pso (i := 12) (N := some 41) (bz 24 8191) (any_of HT_.out (by kernel_rfl)) ?_
           refine pso (i := 13) (N := some 42) (bz 24 16383) (any_of HT_.out (by kernel_rfl)) ?_
           refine pst (i := 14) (N := some 43) (bz 24 32767) (any_of HT_.out (by kernel_rfl)) ?_
           refine pst (i := 15) (N := some 44) (bz 24 65535) (any_of HT_.out (by kernel_rfl)) ?_
           refine pso (i := 16) (N := some 45) (bz 24 131071) (any_of HT_.out (by kernel_rfl)) ?_
           refine pso (i := 17) (N := some 46) (bz 24 262143) (any_of HT_.out (by kernel_rfl)) ?_
           refine pso (i := 18) (N := some 47) (bz 24 524287) (any_of HT_.out (by kernel_rfl)) ?_
           refine pso (i := 19) (N := some 48) (bz 24 1048575) (any_of HT_.out (by kernel_rfl)) ?_
           refine pso (i := 20) (N := some 49) (bz 24 2097151) (any_of HT_.out (by kernel_rfl)) ?_
           refine pso (i := 21) (N := some 50) (bz 24 4194303) (any_of HT_.out (by kernel_rfl)) ?_
           refine pso (i := 22) (N := some 51) (bz 24 8388607) (any_of HT_.out (by kernel_rfl)) ?_
           refine pst (i := 23) (N := some 52) (bz 24 16777215) (any_of HT_.out (by kernel_rfl)) ?_
           refine done_ (done_of HT_.out (by kernel_rfl)) ?_
           try go_wp2
           go_meet
           case rel => exact ⟨_, (true), rsz, H', ⟨by have := HK1.out; first | omega | exact Nat.le_refl _⟩, ⟨by (try simp only [hl11_1]); (with_reducible repeat (first | apply Kd.R_alloc | apply Kd.R_drewN | apply Kd.R_drew)); exact HO_11.out⟩, ⟨by (try simp only [hl11_1]); (with_reducible repeat (first | refine blk_drewN ?_ _ | refine blk_drew ?_ | refine blk_alloc ?_ _)); exact BK642.out⟩, ⟨bel⟩⟩
          ·
           rw [if_neg c20] at H
           have c20b0 : decide ((rd l4 x13_1) < 0) = false := decide_eq_false c20
           clear c20
           by_cases c22 : (rd l4 x13_1) ≥ (l0_1.length : Int)
           ·
            rw [if_pos c22] at H
            have c22b0 : decide ((l0_1.length : Int) ≤ (rd l4 x13_1)) = true := decide_eq_true c22
            try (have c22b0hl11_1 := c22b0; simp only [hl11_1] at c22b0hl11_1)
            clear c22
            have H' := Aside0.mk H
            clear H
            try go_wp2
            have n0_ := Aside0.mk (Kd.R_drew HO_11.out)
            have n1_ := Aside0.mk (blk_drew BK642.out)
            have n2_ := Aside0.mk (below_drew1 HB.out)
            clear HO_11
            clear BK642
            clear HB
            have HO_11 := n0_
            have BK642 := n1_
            have HB := n2_
            clear n0_ n1_ n2_
            have p647 : 0 ≤ (x13_1 : Int) := of_decide_eq_true asz
            have q647 : x13_1 < (l4.length : Int) := of_decide_eq_true asz
            obtain ⟨ad647, e647, hx647_0⟩ := Kd.at_int HR4.out x13_1 p647 q647
            have hw647_0 := hx647_0
            cases e647
            replace hx647_0 := (HB.out.cell (World.block_lt_of_cell? w _ hx647_0)).trans hx647_0
            replace p647 := eq_true p647
            replace q647 := eq_true q647
            have p648 : 0 ≤ (x13_1 : Int) := of_decide_eq_true asz
            have q648 : x13_1 < (l4.length : Int) := of_decide_eq_true asz
            obtain ⟨ad648, e648, hx648_0⟩ := Kd.at_int HR4.out x13_1 p648 q648
            have hw648_0 := hx648_0
            obtain rfl : ad647 = ad648 := (by injection e648)
            replace hx648_0 := (HB.out.cell (World.block_lt_of_cell? w _ hx648_0)).trans hx648_0
            replace p648 := eq_true p648
            replace q648 := eq_true q648
            refine start_ (n := 24) (S := fun w' => w'.cell? ⟨gb642, 0, none⟩ = some (.int .i64 a0_0) ∧ w'.cell? ⟨gb642, 1, none⟩ = some (.slice A0_1 l0_1.length c0_1) ∧ w'.cell? ⟨gb642, 2, none⟩ = some (.slice A0_2 l0_2.length c0_2) ∧ w'.cell? (ad647.add (x13_1).toNat) = some (.int .i64 (rd l4 x13_1)) ∧ w'.cell? (ad647.add (x13_1).toNat) = some (.int .i64 (rd l4 x13_1))) (ds := []) #[false, false, false, false, false, false, false, false, false, false, false, false, false, false, false, false, false, false, false, false, false, false, false, false] (by kernel_rfl) rfl rfl ⟨(blk_cell BK642.out 0).trans rfl, (blk_cell BK642.out 1).trans rfl, (blk_cell BK642.out 2).trans rfl, ((HB.out.cell (World.block_lt_of_cell? w _ hw647_0)).trans hw647_0), ((HB.out.cell (World.block_lt_of_cell? w _ hw648_0)).trans hw648_0)⟩ (fun hHeld => ?_); refine with_tabW dropperref05_leads.tab7 dropperref05_leads.bits7 (fun HT_ HW_ => ?_)
            generalize wr.drew = w23 at HO_11 BK642 HB hx647_0 hx648_0 hHeld ⊢
            refine pst (i := 0) (N := some 29) (bz 24 1) (any_of HT_.out (by kernel_rfl)) ?_
            refine pst (i := 1) (N := some 30) (bz 24 3) (any_of HT_.out (by kernel_rfl)) ?_
            refine pst (i := 2) (N := some 31) (bz 24 7) (any_of HT_.out (by kernel_rfl)) ?_
            refine tst5 (i := 3) (N := some 32) (bz 24 15) (take_ofW HT_.out HW_.out (by kernel_rfl)) hHeld ?_
            refine pst (i := 4) (N := some 33) (bz 24 31) (any_of HT_.out (by kernel_rfl)) ?_
            refine pst (i := 5) (N := some 34) (bz 24 63) (any_of HT_.out (by kernel_rfl)) ?_
            refine pst (i := 6) (N := some 35) (bz 24 127) (any_of HT_.out (by kernel_rfl)) ?_
            refine pst (i := 7) (N := some 36) (bz 24 255) (any_of HT_.out (by kernel_rfl)) ?_
            refine pst (i := 8) (N := some 37) (bz 24 511) (any_of HT_.out (by kernel_rfl)) ?_
            refine pst (i := 10) (N := some 39) (bz 24 1535) (any_of HT_.out (by kernel_rfl)) ?_
            refine tst5 (i := 9) (N := some 38) (bz 24 2047) (take_ofW HT_.out HW_.out (by kernel_rfl)) hHeld ?_
            refine tst5 (i := 11) (N := some 40) (bz 24 4095) (take_ofW HT_.out HW_.out (by kernel_rfl)) hHeld ?_
            refine pst (i := 12) (N := some 41) (bz 24 8191) (any_of HT_.out (by kernel_rfl)) ?_
            refine pst (i := 13) (N := some 42) (bz 24 16383) (any_of HT_.out (by kernel_rfl)) ?_
            refine pst (i := 14) (N := some 43) (bz 24 32767) (any_of HT_.out (by kernel_rfl)) ?_
            refine pst (i := 15) (N := some 44) (bz 24 65535) (any_of HT_.out (by kernel_rfl)) ?_
            refine pso (i := 16) (N := some 45) (bz 24 131071) (any_of HT_.out (by kernel_rfl)) ?_
            refine pso (i := 17) (N := some 46) (bz 24 262143) (any_of HT_.out (by kernel_rfl)) ?_
            refine pso (i := 18) (N := some 47) (bz 24 524287) (any_of HT_.out (by kernel_rfl)) ?_
            refine pso (i := 19) (N := some 48) (bz 24 1048575) (any_of HT_.out (by kernel_rfl)) ?_
            refine pso (i := 20) (N := some 49) (bz 24 2097151) (any_of HT_.out (by kernel_rfl)) ?_
            refine pso (i := 21) (N := some 50) (bz 24 4194303) (any_of HT_.out (by kernel_rfl)) ?_
            refine pso (i := 22) (N := some 51) (bz 24 8388607) (any_of HT_.out (by kernel_rfl)) ?_
            refine pst (i := 23) (N := some 52) (bz 24 16777215) (any_of HT_.out (by kernel_rfl)) ?_
            refine done_ (done_of HT_.out (by kernel_rfl)) ?_
            try go_wp2
            go_meet
            case rel => exact ⟨_, (true), rsz, H', ⟨by have := HK1.out; first | omega | exact Nat.le_refl _⟩, ⟨by (try simp only [hl11_1]); (with_reducible repeat (first | apply Kd.R_alloc | apply Kd.R_drewN | apply Kd.R_drew)); exact HO_11.out⟩, ⟨by (try simp only [hl11_1]); (with_reducible repeat (first | refine blk_drewN ?_ _ | refine blk_drew ?_ | refine blk_alloc ?_ _)); exact BK642.out⟩, ⟨bel⟩⟩
           ·
            rw [if_neg c22] at H
            have c22b0 : decide ((l0_1.length : Int) ≤ (rd l4 x13_1)) = false := decide_eq_false c22
            try (have c22b0hl11_1 := c22b0; simp only [hl11_1] at c22b0hl11_1)
            clear c22
            replace H := Option.bind_eq_some_iff.mp H
            obtain ⟨t650, A240, H⟩ := H
            replace H : (dropperref05_leads.j1 k1 a1 a3 l4 x11_1 x12_1 x13_1 (!t650) a0_0 l0_1 l0_2) = some r := H
            have A24 := Aside0.mk A240
            clear A240
            have H' := Aside0.mk H
            clear H
            try go_wp2
            have n0_ := Aside0.mk (Kd.R_drew HO_11.out)
            have n1_ := Aside0.mk (blk_drew BK642.out)
            have n2_ := Aside0.mk (below_drew1 HB.out)
            clear HO_11
            clear BK642
            clear HB
            have HO_11 := n0_
            have BK642 := n1_
            have HB := n2_
            clear n0_ n1_ n2_
            have p647 : 0 ≤ (x13_1 : Int) := of_decide_eq_true asz
            have q647 : x13_1 < (l4.length : Int) := of_decide_eq_true asz
            obtain ⟨ad647, e647, hx647_0⟩ := Kd.at_int HR4.out x13_1 p647 q647
            have hw647_0 := hx647_0
            cases e647
            replace hx647_0 := (HB.out.cell (World.block_lt_of_cell? w _ hx647_0)).trans hx647_0
            replace p647 := eq_true p647
            replace q647 := eq_true q647
            have p648 : 0 ≤ (x13_1 : Int) := of_decide_eq_true asz
            have q648 : x13_1 < (l4.length : Int) := of_decide_eq_true asz
            obtain ⟨ad648, e648, hx648_0⟩ := Kd.at_int HR4.out x13_1 p648 q648
            have hw648_0 := hx648_0
            obtain rfl : ad647 = ad648 := (by injection e648)
            replace hx648_0 := (HB.out.cell (World.block_lt_of_cell? w _ hx648_0)).trans hx648_0
            replace p648 := eq_true p648
            replace q648 := eq_true q648
            have p649 : 0 ≤ (x13_1 : Int) := of_decide_eq_true asz
            have q649 : x13_1 < (l4.length : Int) := of_decide_eq_true asz
            obtain ⟨ad649, e649, hx649_0⟩ := Kd.at_int HR4.out x13_1 p649 q649
            have hw649_0 := hx649_0
            obtain rfl : ad647 = ad649 := (by injection e649)
            replace hx649_0 := (HB.out.cell (World.block_lt_of_cell? w _ hx649_0)).trans hx649_0
            replace p649 := eq_true p649
            replace q649 := eq_true q649
            refine start_ (n := 24) (S := fun w' => w'.cell? ⟨gb642, 0, none⟩ = some (.int .i64 a0_0) ∧ w'.cell? ⟨gb642, 1, none⟩ = some (.slice A0_1 l0_1.length c0_1) ∧ w'.cell? ⟨gb642, 2, none⟩ = some (.slice A0_2 l0_2.length c0_2) ∧ w'.cell? (ad647.add (x13_1).toNat) = some (.int .i64 (rd l4 x13_1)) ∧ w'.cell? (ad647.add (x13_1).toNat) = some (.int .i64 (rd l4 x13_1)) ∧ w'.cell? (ad647.add (x13_1).toNat) = some (.int .i64 (rd l4 x13_1))) (ds := []) #[false, false, false, false, false, false, false, false, false, false, false, false, false, false, false, false, false, false, false, false, false, false, false, false] (by kernel_rfl) rfl rfl ⟨(blk_cell BK642.out 0).trans rfl, (blk_cell BK642.out 1).trans rfl, (blk_cell BK642.out 2).trans rfl, ((HB.out.cell (World.block_lt_of_cell? w _ hw647_0)).trans hw647_0), ((HB.out.cell (World.block_lt_of_cell? w _ hw648_0)).trans hw648_0), ((HB.out.cell (World.block_lt_of_cell? w _ hw649_0)).trans hw649_0)⟩ (fun hHeld => ?_); refine with_tabW dropperref05_leads.tab7 dropperref05_leads.bits7 (fun HT_ HW_ => ?_)
            generalize wr.drew = w25 at HO_11 BK642 HB hx647_0 hx648_0 hx649_0 hHeld ⊢
            refine pst (i := 0) (N := some 29) (bz 24 1) (any_of HT_.out (by kernel_rfl)) ?_
            refine pst (i := 1) (N := some 30) (bz 24 3) (any_of HT_.out (by kernel_rfl)) ?_
            refine pst (i := 2) (N := some 31) (bz 24 7) (any_of HT_.out (by kernel_rfl)) ?_
            refine tst6 (i := 3) (N := some 32) (bz 24 15) (take_ofW HT_.out HW_.out (by kernel_rfl)) hHeld ?_
            refine pst (i := 4) (N := some 33) (bz 24 31) (any_of HT_.out (by kernel_rfl)) ?_
            refine pst (i := 5) (N := some 34) (bz 24 63) (any_of HT_.out (by kernel_rfl)) ?_
            refine pst (i := 6) (N := some 35) (bz 24 127) (any_of HT_.out (by kernel_rfl)) ?_
            refine pst (i := 7) (N := some 36) (bz 24 255) (any_of HT_.out (by kernel_rfl)) ?_
            refine pst (i := 8) (N := some 37) (bz 24 511) (any_of HT_.out (by kernel_rfl)) ?_
            refine pst (i := 10) (N := some 39) (bz 24 1535) (any_of HT_.out (by kernel_rfl)) ?_
            refine tst6 (i := 9) (N := some 38) (bz 24 2047) (take_ofW HT_.out HW_.out (by kernel_rfl)) hHeld ?_
            refine tst6 (i := 11) (N := some 40) (bz 24 4095) (take_ofW HT_.out HW_.out (by kernel_rfl)) hHeld ?_
            refine pst (i := 12) (N := some 41) (bz 24 8191) (any_of HT_.out (by kernel_rfl)) ?_
            refine pst (i := 13) (N := some 42) (bz 24 16383) (any_of HT_.out (by kernel_rfl)) ?_
            refine pst (i := 14) (N := some 43) (bz 24 32767) (any_of HT_.out (by kernel_rfl)) ?_
            refine pst (i := 15) (N := some 44) (bz 24 65535) (any_of HT_.out (by kernel_rfl)) ?_
            refine pst (i := 16) (N := some 45) (bz 24 131071) (any_of HT_.out (by kernel_rfl)) ?_
            refine pst (i := 17) (N := some 46) (bz 24 262143) (any_of HT_.out (by kernel_rfl)) ?_
            refine pst (i := 18) (N := some 47) (bz 24 524287) (any_of HT_.out (by kernel_rfl)) ?_
            refine pst (i := 19) (N := some 48) (bz 24 1048575) (any_of HT_.out (by kernel_rfl)) ?_
            refine tst6 (i := 20) (N := some 49) (bz 24 2097151) (take_ofW HT_.out HW_.out (by kernel_rfl)) hHeld ?_
            refine one_ (i := 21) (N := some 50) #[true, true, true, true, true, true, true, true, true, true, true, true, true, true, true, true, true, true, true, true, true, true, false, false] rfl rfl (one_of HT_.out (by kernel_rfl)) (by decide) (fun K hK => ?_)
            refine goes_ Tryd.func61 (by kernel_rfl) rfl #[.int .i64 a1, .int .i64 (rd l4 x13_1)] (by rfl) rfl rfl mapz ?_
            with_reducible refine (dropperref05_closed.calls a1 (rd l4 x13_1) t650 _ A24.out).mono ?_
            rintro e w' ⟨rfl, ⟨nd, rfl⟩⟩
            refine ⟨_, rfl, ?_⟩
            refine hK.out _ _ ⟨(blk_cell BK642.out 0).trans rfl, (blk_cell BK642.out 1).trans rfl, (blk_cell BK642.out 2).trans rfl, ((HB.out.cell (World.block_lt_of_cell? w _ hw647_0)).trans hw647_0), ((HB.out.cell (World.block_lt_of_cell? w _ hw648_0)).trans hw648_0), ((HB.out.cell (World.block_lt_of_cell? w _ hw649_0)).trans hw649_0)⟩ (fun hHeld => ?_)
            clear hK K
            refine norm_ (a' := ?_) ?_ ?_
            rotate_left
            ·
             show Act.put _ (some 50) _ = _
             simp only [Act.put, List.setIfInBounds_toArray, List.set_cons_zero, List.set_cons_succ, i64_w, i32_w]
             rfl
            refine pst (i := 22) (N := some 51) (bz 24 8388607) (any_of HT_.out (by kernel_rfl)) ?_
            refine pst (i := 23) (N := some 52) (bz 24 16777215) (any_of HT_.out (by kernel_rfl)) ?_
            refine done_ (done_of HT_.out (by kernel_rfl)) ?_
            try go_wp2
            go_meet
            case rel => exact ⟨_, (!t650), rsz, H', ⟨by have := HK1.out; first | omega | exact Nat.le_refl _⟩, ⟨by (try simp only [hl11_1]); (with_reducible repeat (first | apply Kd.R_alloc | apply Kd.R_drewN | apply Kd.R_drew)); exact HO_11.out⟩, ⟨by (try simp only [hl11_1]); (with_reducible repeat (first | refine blk_drewN ?_ _ | refine blk_drew ?_ | refine blk_alloc ?_ _)); exact BK642.out⟩, ⟨bel⟩⟩
         ·
          rw [if_neg c19] at H
          exact absurd H (by simp)
        case rest =>
         clear HC18
         try clear c1
         try clear c2
         try clear p2
         try clear c6
         try clear p6
         try clear q6
         try clear hx6
         try clear c19
         try clear c20
         try clear c20b0
         try clear c22
         try clear c22b0
         try clear hx647_0
         try clear hx648_0
         try clear hx649_0
         try clear p647
         try clear p648
         try clear p649
         try clear q647
         try clear q648
         try clear q649
         obtain ⟨kq, x52_17, rfl, HA, HJ17, HO_11, BK642, HB⟩ := hcut
         cases kq with
         | zero => exact absurd HA.out (by simp [dropperref05_leads.j1])
         | succ kj17 =>
          have H := HA.out
          clear HA
          simp only [dropperref05_leads.j1] at H
          by_cases c26 : x52_17 = true
          ·
           subst c26
           have H1 : (some false) = some r := by rw [if_pos rfl] at H; exact H
           clear H
           have H := H1
           clear H1
           obtain rfl := Option.some.inj H
           go_wp2
           go_ret
           exact ⟨ezz, bel⟩
          ·
           replace c26 := Bool.eq_false_iff.mpr c26
           subst c26
           have H1 : (if 0 ≤ x13_1 then (if x13_1 < (l4.length : Int) then (if 0 ≤ (rd l4 x13_1) then (if (rd l4 x13_1) < (l0_1.length : Int) then (if x12_1 = ((rd_T69 l0_1 (rd l4 x13_1)).f0) then (if 0 ≤ ((rd_T69 l0_1 (rd l4 x13_1)).f1) then (if ((rd_T69 l0_1 (rd l4 x13_1)).f1) < (x11_1.length : Int) then (if rdOf false x11_1 ((rd_T69 l0_1 (rd l4 x13_1)).f1) = true then (some false) else (dropperref05_leads.l0 kj17 a1 a3 l4 (x11_1.set (((rd_T69 l0_1 (rd l4 x13_1)).f1) : Int).toNat true) ((rd_T69 l0_1 (rd l4 x13_1)).f1) (wrap64 (x13_1 + 1)) a0_0 l0_1 l0_2)) else (none)) else (none)) else (if x12_1 = ((rd_T69 l0_1 (rd l4 x13_1)).f1) then (if 0 ≤ ((rd_T69 l0_1 (rd l4 x13_1)).f0) then (if ((rd_T69 l0_1 (rd l4 x13_1)).f0) < (x11_1.length : Int) then (if rdOf false x11_1 ((rd_T69 l0_1 (rd l4 x13_1)).f0) = true then (some false) else (dropperref05_leads.l0 kj17 a1 a3 l4 (x11_1.set (((rd_T69 l0_1 (rd l4 x13_1)).f0) : Int).toNat true) ((rd_T69 l0_1 (rd l4 x13_1)).f0) (wrap64 (x13_1 + 1)) a0_0 l0_1 l0_2)) else (none)) else (none)) else (some false))) else (none)) else (none)) else (none)) else (none)) = some r := by rw [if_neg (show ¬ (false = true) by decide)] at H; exact H
           clear H
           have H := H1
           clear H1
           by_cases c27 : 0 ≤ x13_1
           ·
            rw [if_pos c27] at H
            have c27b0 : decide (0 ≤ x13_1) = true := decide_eq_true c27
            clear c27
            by_cases c28 : x13_1 < (l4.length : Int)
            ·
             rw [if_pos c28] at H
             have c28b0 : decide (x13_1 < (l4.length : Int)) = true := decide_eq_true c28
             try (have c28b0hl11_1 := c28b0; simp only [hl11_1] at c28b0hl11_1)
             clear c28
             by_cases c29 : 0 ≤ (rd l4 x13_1)
             ·
              rw [if_pos c29] at H
              have c29b0 : decide (0 ≤ (rd l4 x13_1)) = true := decide_eq_true c29
              clear c29
              by_cases c30 : (rd l4 x13_1) < (l0_1.length : Int)
              ·
               rw [if_pos c30] at H
               have c30b0 : decide ((rd l4 x13_1) < (l0_1.length : Int)) = true := decide_eq_true c30
               try (have c30b0hl11_1 := c30b0; simp only [hl11_1] at c30b0hl11_1)
               clear c30
               by_cases c31 : x12_1 = ((rd_T69 l0_1 (rd l4 x13_1)).f0)
               ·
                rw [if_pos c31] at H
                have c31b0 : (x12_1 == ((rd_T69 l0_1 (rd l4 x13_1)).f0)) = true := beq_iff_eq.mpr c31
                have c31b1 : (x12_1 != ((rd_T69 l0_1 (rd l4 x13_1)).f0)) = false := bne_eq_false_iff_eq.mpr c31
                clear c31
                by_cases c32 : 0 ≤ ((rd_T69 l0_1 (rd l4 x13_1)).f1)
                ·
                 rw [if_pos c32] at H
                 have c32b0 : decide (0 ≤ ((rd_T69 l0_1 (rd l4 x13_1)).f1)) = true := decide_eq_true c32
                 clear c32
                 by_cases c33 : ((rd_T69 l0_1 (rd l4 x13_1)).f1) < (x11_1.length : Int)
                 ·
                  rw [if_pos c33] at H
                  have c33b0 : decide (((rd_T69 l0_1 (rd l4 x13_1)).f1) < (x11_1.length : Int)) = true := decide_eq_true c33
                  try (have c33b0hl11_1 := c33b0; simp only [hl11_1] at c33b0hl11_1)
                  clear c33
                  obtain ⟨bq34, hbq34⟩ : ∃ b_ : Bool, b_ = (rdOf false x11_1 ((rd_T69 l0_1 (rd l4 x13_1)).f1)) := ⟨_, rfl⟩
                  replace H : (if bq34 = true then (some false) else (dropperref05_leads.l0 kj17 a1 a3 l4 (x11_1.set (((rd_T69 l0_1 (rd l4 x13_1)).f1) : Int).toNat true) ((rd_T69 l0_1 (rd l4 x13_1)).f1) (wrap64 (x13_1 + 1)) a0_0 l0_1 l0_2)) = some r := by rw [← hbq34] at H; exact H
                  have Nbq34 := Aside0.mk hbq34
                  clear hbq34
                  by_cases c35 : bq34 = true
                  ·
                   subst c35
                   have H1 : (some false) = some r := by rw [if_pos rfl] at H; exact H
                   clear H
                   have H := H1
                   clear H1
                   obtain rfl := Option.some.inj H
                   try go_wp2
                   have n0_ := Aside0.mk (Kd.R_drew HO_11.out)
                   have n1_ := Aside0.mk (blk_drew BK642.out)
                   have n2_ := Aside0.mk (below_drew1 HB.out)
                   clear HO_11
                   clear BK642
                   clear HB
                   have HO_11 := n0_
                   have BK642 := n1_
                   have HB := n2_
                   clear n0_ n1_ n2_
                   have p651 : 0 ≤ (x13_1 : Int) := of_decide_eq_true asz
                   have q651 : x13_1 < (l4.length : Int) := of_decide_eq_true asz
                   obtain ⟨ad651, e651, hx651_0⟩ := Kd.at_int HR4.out x13_1 p651 q651
                   have hw651_0 := hx651_0
                   cases e651
                   replace hx651_0 := (HB.out.cell (World.block_lt_of_cell? w _ hx651_0)).trans hx651_0
                   replace p651 := eq_true p651
                   replace q651 := eq_true q651
                   have p652 : 0 ≤ ((rd l4 x13_1) : Int) := of_decide_eq_true asz
                   have q652 : (rd l4 x13_1) < (l0_1.length : Int) := of_decide_eq_true asz
                   obtain ⟨ad652, e652, hx652_0, hx652_1⟩ := at_T69 HR0_1.out (rd l4 x13_1) p652 q652
                   have hw652_1 := hx652_1
                   have hw652_0 := hx652_0
                   cases e652
                   replace hx652_0 := (HB.out.cell (World.block_lt_of_cell? w _ hx652_0)).trans hx652_0
                   replace hx652_1 := (HB.out.cell (World.block_lt_of_cell? w _ hx652_1)).trans hx652_1
                   replace p652 := eq_true p652
                   replace q652 := eq_true q652
                   refine start_ (n := 10) (S := fun w' => w'.cell? ⟨gb642, 0, none⟩ = some (.int .i64 a0_0) ∧ w'.cell? ⟨gb642, 1, none⟩ = some (.slice (some ad652) l0_1.length c0_1) ∧ w'.cell? ⟨gb642, 2, none⟩ = some (.slice A0_2 l0_2.length c0_2) ∧ w'.cell? (ad651.add (x13_1).toNat) = some (.int .i64 (rd l4 x13_1)) ∧ w'.cell? (ad652.add (((rd l4 x13_1)).toNat * 2)) = some (.int .i64 ((rd_T69 l0_1 (rd l4 x13_1)).f0)) ∧ w'.cell? ⟨(ad652.add (((rd l4 x13_1)).toNat * 2)).block, (ad652.add (((rd l4 x13_1)).toNat * 2)).off + 1, none⟩ = some (.int .i64 ((rd_T69 l0_1 (rd l4 x13_1)).f1))) (ds := []) #[false, false, false, false, false, false, false, false, false, false] (by kernel_rfl) rfl rfl ⟨(blk_cell BK642.out 0).trans rfl, (blk_cell BK642.out 1).trans rfl, (blk_cell BK642.out 2).trans rfl, ((HB.out.cell (World.block_lt_of_cell? w _ hw651_0)).trans hw651_0), ((HB.out.cell (World.block_lt_of_cell? w _ hw652_0)).trans hw652_0), ((HB.out.cell (World.block_lt_of_cell? w _ hw652_1)).trans hw652_1)⟩ (fun hHeld => ?_); refine with_tabW dropperref05_leads.tab9 dropperref05_leads.bits9 (fun HT_ HW_ => ?_)
                   generalize wc.drew = w36 at HO_11 BK642 HB hx651_0 hx652_0 hx652_1 hHeld ⊢
                   refine pst (i := 0) (N := some 53) (bz 10 1) (any_of HT_.out (by kernel_rfl)) ?_
                   refine pst (i := 2) (N := some 55) (bz 10 5) (any_of HT_.out (by kernel_rfl)) ?_
                   refine pst (i := 3) (N := some 56) (bz 10 13) (any_of HT_.out (by kernel_rfl)) ?_
                   refine pst (i := 4) (N := some 57) (bz 10 29) (any_of HT_.out (by kernel_rfl)) ?_
                   refine tst6 (i := 1) (N := some 54) (bz 10 31) (take_ofW HT_.out HW_.out (by kernel_rfl)) hHeld ?_
                   refine tst6 (i := 5) (N := some 58) (bz 10 63) (take_ofW HT_.out HW_.out (by kernel_rfl)) hHeld ?_
                   refine pst (i := 6) (N := some 59) (bz 10 127) (any_of HT_.out (by kernel_rfl)) ?_
                   refine tst6 (i := 7) (N := some 60) (bz 10 255) (take_ofW HT_.out HW_.out (by kernel_rfl)) hHeld ?_
                   refine one_ (i := 8) (N := some 14) #[true, true, true, true, true, true, true, true, true, false] rfl rfl (one_of HT_.out (by kernel_rfl)) (by decide) (fun K hK => ?_)
                   refine box_step ?hg (N := 14) ?hd (cs := #[.int .i64 0, .int .i64 0]) (t := 69) ?hr ?_; (case hd => rfl); (case hg => rfl); (case hr => first | (go_simp; done) | (go_simp; rfl))
                   intro gb653 hg w37 hbox hb
                   have n0_ := Aside0.mk (Kd.R_below (ownx HO_11) hb)
                   have n1_ := Aside0.mk (blk_below (g := gb642) blkz hb)
                   have n2_ := Aside0.mk (below_step bel hb)
                   have n3_ := Aside0.mk (hbox)
                   have n4_ := bsz (w := w) hg
                   have n5_ := bsz (w := w) hg
                   have n6_ := neL (g := gb642) hg
                   have n7_ := neR (g := gb642) hg
                   clear HO_11
                   clear BK642
                   clear HB
                   have HO_11 := n0_
                   have BK642 := n1_
                   have HB := n2_
                   have BK653 := n3_
                   have GW653 := n4_
                   have GE653 := n5_
                   have NB642_653 := n6_
                   have NB653_642 := n7_
                   clear n0_ n1_ n2_ n3_ n4_ n5_ n6_ n7_
                   clear hb hbox hg
                   refine hK.out _ _ ⟨(blk_cell BK642.out 0).trans rfl, (blk_cell BK642.out 1).trans rfl, (blk_cell BK642.out 2).trans rfl, ((HB.out.cell (World.block_lt_of_cell? w _ hw651_0)).trans hw651_0), ((HB.out.cell (World.block_lt_of_cell? w _ hw652_0)).trans hw652_0), ((HB.out.cell (World.block_lt_of_cell? w _ hw652_1)).trans hw652_1)⟩ (fun hHeld => ?_)
                   clear hK K
                   refine norm_ (a' := ?_) ?_ ?_
                   rotate_left
                   ·
                    show Act.put _ (some 14) _ = _
                    simp only [Act.put, List.setIfInBounds_toArray, List.set_cons_zero, List.set_cons_succ, i64_w, i32_w]
                    rfl
                   refine one_ (i := 9) (N := none) #[true, true, true, true, true, true, true, true, true, true] rfl rfl (one_of HT_.out (by kernel_rfl)) (by decide) (fun K hK => ?_)
                   have hs38 : w37.cell? ⟨gb653, 0, none⟩ = some (.int .i64 0) := (blk_cell BK653.out 0).trans rfl
                   have hfs38 := blk_frozen BK653.out 0
                   have hns38_0 := NB642_653.out
                   have hms38_0 := NB653_642.out
                   have hs39 : w37.cell? ⟨gb653, 1, none⟩ = some (.int .i64 0) := (blk_cell BK653.out 1).trans rfl
                   have hfs39 := blk_frozen BK653.out 1
                   have hns39_0 := NB642_653.out
                   have hms39_0 := NB653_642.out
                   refine skip_ (w1 := ?_) (by rfl) rfl ?_ ?_
                   rotate_left
                   ·
                    go_simp
                    rfl
                   refine hK.out _ _ ⟨((cell_far (p := ⟨gb653, _, none⟩) NB642_653.out _).trans (((cell_far (p := ⟨gb653, _, none⟩) NB642_653.out _).trans (hHeld.1)))), ((cell_far (p := ⟨gb653, _, none⟩) NB642_653.out _).trans (((cell_far (p := ⟨gb653, _, none⟩) NB642_653.out _).trans (hHeld.2.1)))), ((cell_far (p := ⟨gb653, _, none⟩) NB642_653.out _).trans (((cell_far (p := ⟨gb653, _, none⟩) NB642_653.out _).trans (hHeld.2.2.1)))), ((cell_far (p := ⟨gb653, _, none⟩) (by first | exact Nat.ne_of_lt (Nat.lt_of_lt_of_le (by have := World.block_lt_of_cell? _ _ hw651_0; first | rwa [add_block] at this | exact this) GW653.out) | (rw [add_block]; exact Nat.ne_of_lt (Nat.lt_of_lt_of_le (by have := World.block_lt_of_cell? _ _ hw651_0; first | rwa [add_block] at this | exact this) GW653.out)) | (show (Addr.add _ _).block ≠ _; rw [add_block]; exact Nat.ne_of_lt (Nat.lt_of_lt_of_le (by have := World.block_lt_of_cell? _ _ hw651_0; first | rwa [add_block] at this | exact this) GW653.out)) | (dsimp only; exact Nat.ne_of_lt (Nat.lt_of_lt_of_le (by have := World.block_lt_of_cell? _ _ hw651_0; first | rwa [add_block] at this | exact this) GW653.out))) _).trans (((cell_far (p := ⟨gb653, _, none⟩) (by first | exact Nat.ne_of_lt (Nat.lt_of_lt_of_le (by have := World.block_lt_of_cell? _ _ hw651_0; first | rwa [add_block] at this | exact this) GW653.out) | (rw [add_block]; exact Nat.ne_of_lt (Nat.lt_of_lt_of_le (by have := World.block_lt_of_cell? _ _ hw651_0; first | rwa [add_block] at this | exact this) GW653.out)) | (show (Addr.add _ _).block ≠ _; rw [add_block]; exact Nat.ne_of_lt (Nat.lt_of_lt_of_le (by have := World.block_lt_of_cell? _ _ hw651_0; first | rwa [add_block] at this | exact this) GW653.out)) | (dsimp only; exact Nat.ne_of_lt (Nat.lt_of_lt_of_le (by have := World.block_lt_of_cell? _ _ hw651_0; first | rwa [add_block] at this | exact this) GW653.out))) _).trans (hHeld.2.2.2.1)))), ((cell_far (p := ⟨gb653, _, none⟩) (by first | exact Nat.ne_of_lt (Nat.lt_of_lt_of_le (by have := World.block_lt_of_cell? _ _ hw652_0; first | rwa [add_block] at this | exact this) GW653.out) | (rw [add_block]; exact Nat.ne_of_lt (Nat.lt_of_lt_of_le (by have := World.block_lt_of_cell? _ _ hw652_0; first | rwa [add_block] at this | exact this) GW653.out)) | (show (Addr.add _ _).block ≠ _; rw [add_block]; exact Nat.ne_of_lt (Nat.lt_of_lt_of_le (by have := World.block_lt_of_cell? _ _ hw652_0; first | rwa [add_block] at this | exact this) GW653.out)) | (dsimp only; exact Nat.ne_of_lt (Nat.lt_of_lt_of_le (by have := World.block_lt_of_cell? _ _ hw652_0; first | rwa [add_block] at this | exact this) GW653.out))) _).trans (((cell_far (p := ⟨gb653, _, none⟩) (by first | exact Nat.ne_of_lt (Nat.lt_of_lt_of_le (by have := World.block_lt_of_cell? _ _ hw652_0; first | rwa [add_block] at this | exact this) GW653.out) | (rw [add_block]; exact Nat.ne_of_lt (Nat.lt_of_lt_of_le (by have := World.block_lt_of_cell? _ _ hw652_0; first | rwa [add_block] at this | exact this) GW653.out)) | (show (Addr.add _ _).block ≠ _; rw [add_block]; exact Nat.ne_of_lt (Nat.lt_of_lt_of_le (by have := World.block_lt_of_cell? _ _ hw652_0; first | rwa [add_block] at this | exact this) GW653.out)) | (dsimp only; exact Nat.ne_of_lt (Nat.lt_of_lt_of_le (by have := World.block_lt_of_cell? _ _ hw652_0; first | rwa [add_block] at this | exact this) GW653.out))) _).trans (hHeld.2.2.2.2.1)))), ((cell_far (p := ⟨gb653, _, none⟩) (by first | exact Nat.ne_of_lt (Nat.lt_of_lt_of_le (by have := World.block_lt_of_cell? _ _ hw652_1; first | rwa [add_block] at this | exact this) GW653.out) | (rw [add_block]; exact Nat.ne_of_lt (Nat.lt_of_lt_of_le (by have := World.block_lt_of_cell? _ _ hw652_1; first | rwa [add_block] at this | exact this) GW653.out)) | (show (Addr.add _ _).block ≠ _; rw [add_block]; exact Nat.ne_of_lt (Nat.lt_of_lt_of_le (by have := World.block_lt_of_cell? _ _ hw652_1; first | rwa [add_block] at this | exact this) GW653.out)) | (dsimp only; exact Nat.ne_of_lt (Nat.lt_of_lt_of_le (by have := World.block_lt_of_cell? _ _ hw652_1; first | rwa [add_block] at this | exact this) GW653.out))) _).trans (((cell_far (p := ⟨gb653, _, none⟩) (by first | exact Nat.ne_of_lt (Nat.lt_of_lt_of_le (by have := World.block_lt_of_cell? _ _ hw652_1; first | rwa [add_block] at this | exact this) GW653.out) | (rw [add_block]; exact Nat.ne_of_lt (Nat.lt_of_lt_of_le (by have := World.block_lt_of_cell? _ _ hw652_1; first | rwa [add_block] at this | exact this) GW653.out)) | (show (Addr.add _ _).block ≠ _; rw [add_block]; exact Nat.ne_of_lt (Nat.lt_of_lt_of_le (by have := World.block_lt_of_cell? _ _ hw652_1; first | rwa [add_block] at this | exact this) GW653.out)) | (dsimp only; exact Nat.ne_of_lt (Nat.lt_of_lt_of_le (by have := World.block_lt_of_cell? _ _ hw652_1; first | rwa [add_block] at this | exact this) GW653.out))) _).trans (hHeld.2.2.2.2.2))))⟩ (fun hHeld => ?_)
                   clear hK K
                   refine done_ (done_of HT_.out (by kernel_rfl)) ?_
                   have hnb40 := NB653_642.out
                   have hnc40 := NB642_653.out
                   have hcz41_0 := blkc BK653.out 0 (.int .i64 0) rfl
                   have hcz41_1 := blkc BK653.out 1 (.int .i64 0) rfl
                   have hfz41_0 := blk_frozen BK653.out 0
                   have hfz41_1 := blk_frozen BK653.out 1
                   have p654 : 0 ≤ (((rd_T69 l0_1 (rd l4 x13_1)).f1) : Int) := of_decide_eq_true asz
                   have q654 : ((rd_T69 l0_1 (rd l4 x13_1)).f1) < (x11_1.length : Int) := of_decide_eq_true asz
                   obtain ⟨ad654, e654, hx654_0⟩ := Kd.at_bool (Kd.R_reads' HO_11.out).2.2 ((rd_T69 l0_1 (rd l4 x13_1)).f1) p654 q654
                   (try rw [← Nbq34.out] at hx654_0)
                   obtain rfl : (⟨go10, 0, none⟩ : Addr) = ad654 := (by injection e654)
                   (first | simp only [add_plain] at hx654_0 | simp only [add_at] at hx654_0 | simp only [Addr.add, Nat.zero_add] at hx654_0 | skip)
                   have hn654_0 : (⟨go10, 0, none⟩ : Addr).block ≠ gb653 := Kd.own_blk (Kd.R_ne HO_11.out BK653.out (by decide))
                   have hn654_1 : (⟨go10, 0, none⟩ : Addr).block ≠ gb653 := Kd.own_blk (Kd.R_ne HO_11.out BK653.out (by decide))
                   replace hx654_0 := (cell_far (p := ⟨gb653, 0, none⟩) (by first | (rw [add_block]; exact hn654_0) | (show (Addr.add _ _).block ≠ _; rw [add_block]; exact hn654_0) | exact hn654_0) (.int .i64 ((rd_T69 l0_1 (rd l4 x13_1)).f0))).trans hx654_0
                   replace hx654_0 := (cell_far (p := ⟨gb653, 1, none⟩) (by first | (rw [add_block]; exact hn654_1) | (show (Addr.add _ _).block ≠ _; rw [add_block]; exact hn654_1) | exact hn654_1) (.int .i64 ((rd_T69 l0_1 (rd l4 x13_1)).f1))).trans hx654_0
                   clear hn654_0
                   clear hn654_1
                   replace p654 := eq_true p654
                   replace q654 := eq_true q654
                   try go_wp2
                   go_ret
                   exact ⟨ezz, bel⟩
                  ·
                   replace c35 := Bool.eq_false_iff.mpr c35
                   subst c35
                   have H1 : (dropperref05_leads.l0 kj17 a1 a3 l4 (x11_1.set (((rd_T69 l0_1 (rd l4 x13_1)).f1) : Int).toNat true) ((rd_T69 l0_1 (rd l4 x13_1)).f1) (wrap64 (x13_1 + 1)) a0_0 l0_1 l0_2) = some r := by rw [if_neg (show ¬ (false = true) by decide)] at H; exact H
                   clear H
                   have H := H1
                   clear H1
                   obtain ⟨y655, hy655⟩ : ∃ y_ : List Bool, y_ = (x11_1.set (((rd_T69 l0_1 (rd l4 x13_1)).f1) : Int).toNat true) := ⟨_, rfl⟩
                   replace H : (dropperref05_leads.l0 kj17 a1 a3 l4 y655 ((rd_T69 l0_1 (rd l4 x13_1)).f1) (wrap64 (x13_1 + 1)) a0_0 l0_1 l0_2) = some r := by first | (rw [hy655]; with_reducible exact H) | (have H2_ := (Option.bind_some _ _).symm.trans H; rw [hy655]; with_reducible exact H2_) | (have H2_ := (Option.bind_some _ _).symm.trans H; with_reducible exact H2_) | with_reducible exact H | (rw [hy655]; exact H) | exact H
                   have Ny655 := Aside0.mk hy655
                   clear hy655
                   have H' := Aside0.mk H
                   clear H
                   try go_wp2
                   have n0_ := Aside0.mk (Kd.R_drew HO_11.out)
                   have n1_ := Aside0.mk (blk_drew BK642.out)
                   have n2_ := Aside0.mk (below_drew1 HB.out)
                   clear HO_11
                   clear BK642
                   clear HB
                   have HO_11 := n0_
                   have BK642 := n1_
                   have HB := n2_
                   clear n0_ n1_ n2_
                   have p651 : 0 ≤ (x13_1 : Int) := of_decide_eq_true asz
                   have q651 : x13_1 < (l4.length : Int) := of_decide_eq_true asz
                   obtain ⟨ad651, e651, hx651_0⟩ := Kd.at_int HR4.out x13_1 p651 q651
                   have hw651_0 := hx651_0
                   cases e651
                   replace hx651_0 := (HB.out.cell (World.block_lt_of_cell? w _ hx651_0)).trans hx651_0
                   replace p651 := eq_true p651
                   replace q651 := eq_true q651
                   have p652 : 0 ≤ ((rd l4 x13_1) : Int) := of_decide_eq_true asz
                   have q652 : (rd l4 x13_1) < (l0_1.length : Int) := of_decide_eq_true asz
                   obtain ⟨ad652, e652, hx652_0, hx652_1⟩ := at_T69 HR0_1.out (rd l4 x13_1) p652 q652
                   have hw652_1 := hx652_1
                   have hw652_0 := hx652_0
                   cases e652
                   replace hx652_0 := (HB.out.cell (World.block_lt_of_cell? w _ hx652_0)).trans hx652_0
                   replace hx652_1 := (HB.out.cell (World.block_lt_of_cell? w _ hx652_1)).trans hx652_1
                   replace p652 := eq_true p652
                   replace q652 := eq_true q652
                   refine start_ (n := 10) (S := fun w' => w'.cell? ⟨gb642, 0, none⟩ = some (.int .i64 a0_0) ∧ w'.cell? ⟨gb642, 1, none⟩ = some (.slice (some ad652) l0_1.length c0_1) ∧ w'.cell? ⟨gb642, 2, none⟩ = some (.slice A0_2 l0_2.length c0_2) ∧ w'.cell? (ad651.add (x13_1).toNat) = some (.int .i64 (rd l4 x13_1)) ∧ w'.cell? (ad652.add (((rd l4 x13_1)).toNat * 2)) = some (.int .i64 ((rd_T69 l0_1 (rd l4 x13_1)).f0)) ∧ w'.cell? ⟨(ad652.add (((rd l4 x13_1)).toNat * 2)).block, (ad652.add (((rd l4 x13_1)).toNat * 2)).off + 1, none⟩ = some (.int .i64 ((rd_T69 l0_1 (rd l4 x13_1)).f1))) (ds := []) #[false, false, false, false, false, false, false, false, false, false] (by kernel_rfl) rfl rfl ⟨(blk_cell BK642.out 0).trans rfl, (blk_cell BK642.out 1).trans rfl, (blk_cell BK642.out 2).trans rfl, ((HB.out.cell (World.block_lt_of_cell? w _ hw651_0)).trans hw651_0), ((HB.out.cell (World.block_lt_of_cell? w _ hw652_0)).trans hw652_0), ((HB.out.cell (World.block_lt_of_cell? w _ hw652_1)).trans hw652_1)⟩ (fun hHeld => ?_); refine with_tabW dropperref05_leads.tab9 dropperref05_leads.bits9 (fun HT_ HW_ => ?_)
                   generalize wc.drew = w43 at HO_11 BK642 HB hx651_0 hx652_0 hx652_1 hHeld ⊢
                   refine pst (i := 0) (N := some 53) (bz 10 1) (any_of HT_.out (by kernel_rfl)) ?_
                   refine pst (i := 2) (N := some 55) (bz 10 5) (any_of HT_.out (by kernel_rfl)) ?_
                   refine pst (i := 3) (N := some 56) (bz 10 13) (any_of HT_.out (by kernel_rfl)) ?_
                   refine pst (i := 4) (N := some 57) (bz 10 29) (any_of HT_.out (by kernel_rfl)) ?_
                   refine tst6 (i := 1) (N := some 54) (bz 10 31) (take_ofW HT_.out HW_.out (by kernel_rfl)) hHeld ?_
                   refine tst6 (i := 5) (N := some 58) (bz 10 63) (take_ofW HT_.out HW_.out (by kernel_rfl)) hHeld ?_
                   refine pst (i := 6) (N := some 59) (bz 10 127) (any_of HT_.out (by kernel_rfl)) ?_
                   refine tst6 (i := 7) (N := some 60) (bz 10 255) (take_ofW HT_.out HW_.out (by kernel_rfl)) hHeld ?_
                   refine one_ (i := 8) (N := some 14) #[true, true, true, true, true, true, true, true, true, false] rfl rfl (one_of HT_.out (by kernel_rfl)) (by decide) (fun K hK => ?_)
                   refine box_step ?hg (N := 14) ?hd (cs := #[.int .i64 0, .int .i64 0]) (t := 69) ?hr ?_; (case hd => rfl); (case hg => rfl); (case hr => first | (go_simp; done) | (go_simp; rfl))
                   intro gb653 hg w44 hbox hb
                   have n0_ := Aside0.mk (Kd.R_below (ownx HO_11) hb)
                   have n1_ := Aside0.mk (blk_below (g := gb642) blkz hb)
                   have n2_ := Aside0.mk (below_step bel hb)
                   have n3_ := Aside0.mk (hbox)
                   have n4_ := bsz (w := w) hg
                   have n5_ := bsz (w := w) hg
                   have n6_ := neL (g := gb642) hg
                   have n7_ := neR (g := gb642) hg
                   clear HO_11
                   clear BK642
                   clear HB
                   have HO_11 := n0_
                   have BK642 := n1_
                   have HB := n2_
                   have BK653 := n3_
                   have GW653 := n4_
                   have GE653 := n5_
                   have NB642_653 := n6_
                   have NB653_642 := n7_
                   clear n0_ n1_ n2_ n3_ n4_ n5_ n6_ n7_
                   clear hb hbox hg
                   refine hK.out _ _ ⟨(blk_cell BK642.out 0).trans rfl, (blk_cell BK642.out 1).trans rfl, (blk_cell BK642.out 2).trans rfl, ((HB.out.cell (World.block_lt_of_cell? w _ hw651_0)).trans hw651_0), ((HB.out.cell (World.block_lt_of_cell? w _ hw652_0)).trans hw652_0), ((HB.out.cell (World.block_lt_of_cell? w _ hw652_1)).trans hw652_1)⟩ (fun hHeld => ?_)
                   clear hK K
                   refine norm_ (a' := ?_) ?_ ?_
                   rotate_left
                   ·
                    show Act.put _ (some 14) _ = _
                    simp only [Act.put, List.setIfInBounds_toArray, List.set_cons_zero, List.set_cons_succ, i64_w, i32_w]
                    rfl
                   refine one_ (i := 9) (N := none) #[true, true, true, true, true, true, true, true, true, true] rfl rfl (one_of HT_.out (by kernel_rfl)) (by decide) (fun K hK => ?_)
                   have hs45 : w44.cell? ⟨gb653, 0, none⟩ = some (.int .i64 0) := (blk_cell BK653.out 0).trans rfl
                   have hfs45 := blk_frozen BK653.out 0
                   have hns45_0 := NB642_653.out
                   have hms45_0 := NB653_642.out
                   have hs46 : w44.cell? ⟨gb653, 1, none⟩ = some (.int .i64 0) := (blk_cell BK653.out 1).trans rfl
                   have hfs46 := blk_frozen BK653.out 1
                   have hns46_0 := NB642_653.out
                   have hms46_0 := NB653_642.out
                   refine skip_ (w1 := ?_) (by rfl) rfl ?_ ?_
                   rotate_left
                   ·
                    go_simp
                    rfl
                   refine hK.out _ _ ⟨((cell_far (p := ⟨gb653, _, none⟩) NB642_653.out _).trans (((cell_far (p := ⟨gb653, _, none⟩) NB642_653.out _).trans (hHeld.1)))), ((cell_far (p := ⟨gb653, _, none⟩) NB642_653.out _).trans (((cell_far (p := ⟨gb653, _, none⟩) NB642_653.out _).trans (hHeld.2.1)))), ((cell_far (p := ⟨gb653, _, none⟩) NB642_653.out _).trans (((cell_far (p := ⟨gb653, _, none⟩) NB642_653.out _).trans (hHeld.2.2.1)))), ((cell_far (p := ⟨gb653, _, none⟩) (by first | exact Nat.ne_of_lt (Nat.lt_of_lt_of_le (by have := World.block_lt_of_cell? _ _ hw651_0; first | rwa [add_block] at this | exact this) GW653.out) | (rw [add_block]; exact Nat.ne_of_lt (Nat.lt_of_lt_of_le (by have := World.block_lt_of_cell? _ _ hw651_0; first | rwa [add_block] at this | exact this) GW653.out)) | (show (Addr.add _ _).block ≠ _; rw [add_block]; exact Nat.ne_of_lt (Nat.lt_of_lt_of_le (by have := World.block_lt_of_cell? _ _ hw651_0; first | rwa [add_block] at this | exact this) GW653.out)) | (dsimp only; exact Nat.ne_of_lt (Nat.lt_of_lt_of_le (by have := World.block_lt_of_cell? _ _ hw651_0; first | rwa [add_block] at this | exact this) GW653.out))) _).trans (((cell_far (p := ⟨gb653, _, none⟩) (by first | exact Nat.ne_of_lt (Nat.lt_of_lt_of_le (by have := World.block_lt_of_cell? _ _ hw651_0; first | rwa [add_block] at this | exact this) GW653.out) | (rw [add_block]; exact Nat.ne_of_lt (Nat.lt_of_lt_of_le (by have := World.block_lt_of_cell? _ _ hw651_0; first | rwa [add_block] at this | exact this) GW653.out)) | (show (Addr.add _ _).block ≠ _; rw [add_block]; exact Nat.ne_of_lt (Nat.lt_of_lt_of_le (by have := World.block_lt_of_cell? _ _ hw651_0; first | rwa [add_block] at this | exact this) GW653.out)) | (dsimp only; exact Nat.ne_of_lt (Nat.lt_of_lt_of_le (by have := World.block_lt_of_cell? _ _ hw651_0; first | rwa [add_block] at this | exact this) GW653.out))) _).trans (hHeld.2.2.2.1)))), ((cell_far (p := ⟨gb653, _, none⟩) (by first | exact Nat.ne_of_lt (Nat.lt_of_lt_of_le (by have := World.block_lt_of_cell? _ _ hw652_0; first | rwa [add_block] at this | exact this) GW653.out) | (rw [add_block]; exact Nat.ne_of_lt (Nat.lt_of_lt_of_le (by have := World.block_lt_of_cell? _ _ hw652_0; first | rwa [add_block] at this | exact this) GW653.out)) | (show (Addr.add _ _).block ≠ _; rw [add_block]; exact Nat.ne_of_lt (Nat.lt_of_lt_of_le (by have := World.block_lt_of_cell? _ _ hw652_0; first | rwa [add_block] at this | exact this) GW653.out)) | (dsimp only; exact Nat.ne_of_lt (Nat.lt_of_lt_of_le (by have := World.block_lt_of_cell? _ _ hw652_0; first | rwa [add_block] at this | exact this) GW653.out))) _).trans (((cell_far (p := ⟨gb653, _, none⟩) (by first | exact Nat.ne_of_lt (Nat.lt_of_lt_of_le (by have := World.block_lt_of_cell? _ _ hw652_0; first | rwa [add_block] at this | exact this) GW653.out) | (rw [add_block]; exact Nat.ne_of_lt (Nat.lt_of_lt_of_le (by have := World.block_lt_of_cell? _ _ hw652_0; first | rwa [add_block] at this | exact this) GW653.out)) | (show (Addr.add _ _).block ≠ _; rw [add_block]; exact Nat.ne_of_lt (Nat.lt_of_lt_of_le (by have := World.block_lt_of_cell? _ _ hw652_0; first | rwa [add_block] at this | exact this) GW653.out)) | (dsimp only; exact Nat.ne_of_lt (Nat.lt_of_lt_of_le (by have := World.block_lt_of_cell? _ _ hw652_0; first | rwa [add_block] at this | exact this) GW653.out))) _).trans (hHeld.2.2.2.2.1)))), ((cell_far (p := ⟨gb653, _, none⟩) (by first | exact Nat.ne_of_lt (Nat.lt_of_lt_of_le (by have := World.block_lt_of_cell? _ _ hw652_1; first | rwa [add_block] at this | exact this) GW653.out) | (rw [add_block]; exact Nat.ne_of_lt (Nat.lt_of_lt_of_le (by have := World.block_lt_of_cell? _ _ hw652_1; first | rwa [add_block] at this | exact this) GW653.out)) | (show (Addr.add _ _).block ≠ _; rw [add_block]; exact Nat.ne_of_lt (Nat.lt_of_lt_of_le (by have := World.block_lt_of_cell? _ _ hw652_1; first | rwa [add_block] at this | exact this) GW653.out)) | (dsimp only; exact Nat.ne_of_lt (Nat.lt_of_lt_of_le (by have := World.block_lt_of_cell? _ _ hw652_1; first | rwa [add_block] at this | exact this) GW653.out))) _).trans (((cell_far (p := ⟨gb653, _, none⟩) (by first | exact Nat.ne_of_lt (Nat.lt_of_lt_of_le (by have := World.block_lt_of_cell? _ _ hw652_1; first | rwa [add_block] at this | exact this) GW653.out) | (rw [add_block]; exact Nat.ne_of_lt (Nat.lt_of_lt_of_le (by have := World.block_lt_of_cell? _ _ hw652_1; first | rwa [add_block] at this | exact this) GW653.out)) | (show (Addr.add _ _).block ≠ _; rw [add_block]; exact Nat.ne_of_lt (Nat.lt_of_lt_of_le (by have := World.block_lt_of_cell? _ _ hw652_1; first | rwa [add_block] at this | exact this) GW653.out)) | (dsimp only; exact Nat.ne_of_lt (Nat.lt_of_lt_of_le (by have := World.block_lt_of_cell? _ _ hw652_1; first | rwa [add_block] at this | exact this) GW653.out))) _).trans (hHeld.2.2.2.2.2))))⟩ (fun hHeld => ?_)
                   clear hK K
                   refine done_ (done_of HT_.out (by kernel_rfl)) ?_
                   have n0_ : Aside0 (Kd.R Kd.bool 4 ((w44.setCell ⟨gb653, 0, none⟩ (.int .i64 ((rd_T69 l0_1 (rd l4 x13_1)).f0))).setCell ⟨gb653, 1, none⟩ (.int .i64 ((rd_T69 l0_1 (rd l4 x13_1)).f1))) w.heap.size (fun _ => True) (.slice (some ⟨go10, 0, none⟩) x11_1.length co10) x11_1) := ⟨by (with_reducible repeat (first | apply Kd.R_alloc | apply Kd.R_drewN | apply Kd.R_drew)); exact Kd.R_mono (Kd.R_far (p := ⟨gb653, 1, none⟩) (Kd.R_far (p := ⟨gb653, 0, none⟩) (Kd.R_types HO_11.out BK653.out (by decide)) (fun _ hk => hk.2) (.int .i64 ((rd_T69 l0_1 (rd l4 x13_1)).f0))) (fun _ hk => hk.2) (.int .i64 ((rd_T69 l0_1 (rd l4 x13_1)).f1))) (fun _ hk => trivial)⟩
                   have n1_ : Aside0 (((w44.setCell ⟨gb653, 0, none⟩ (.int .i64 ((rd_T69 l0_1 (rd l4 x13_1)).f0))).setCell ⟨gb653, 1, none⟩ (.int .i64 ((rd_T69 l0_1 (rd l4 x13_1)).f1))).heap[gb642]? = some (.cells #[.int .i64 a0_0, .slice (some ad652) l0_1.length c0_1, .slice A0_2 l0_2.length c0_2] 25 (0, 0))) := ⟨by (with_reducible repeat (first | refine blk_drewN ?_ _ | refine blk_drew ?_ | refine blk_alloc ?_ _)); refine blk_far ?_ NB642_653.out _; (with_reducible repeat (first | refine blk_drewN ?_ _ | refine blk_drew ?_ | refine blk_alloc ?_ _)); refine blk_far ?_ NB642_653.out _; (with_reducible repeat (first | refine blk_drewN ?_ _ | refine blk_drew ?_ | refine blk_alloc ?_ _)); exact BK642.out⟩
                   have n2_ : Aside0 (((w44.setCell ⟨gb653, 0, none⟩ (.int .i64 ((rd_T69 l0_1 (rd l4 x13_1)).f0))).setCell ⟨gb653, 1, none⟩ (.int .i64 ((rd_T69 l0_1 (rd l4 x13_1)).f1))).heap[gb653]? = some (.cells #[.int .i64 ((rd_T69 l0_1 (rd l4 x13_1)).f0), .int .i64 ((rd_T69 l0_1 (rd l4 x13_1)).f1)] 69 (0, 0))) := ⟨by (with_reducible repeat (first | refine blk_drewN ?_ _ | refine blk_drew ?_ | refine blk_alloc ?_ _)); refine blk_put (cs := #[.int .i64 ((rd_T69 l0_1 (rd l4 x13_1)).f0), .int .i64 0]) ?_ 1 _ rfl; (with_reducible repeat (first | refine blk_drewN ?_ _ | refine blk_drew ?_ | refine blk_alloc ?_ _)); refine blk_put (cs := #[.int .i64 0, .int .i64 0]) ?_ 0 _ rfl; (with_reducible repeat (first | refine blk_drewN ?_ _ | refine blk_drew ?_ | refine blk_alloc ?_ _)); exact BK653.out⟩
                   have n3_ : Aside0 (Below w.heap.size w ((w44.setCell ⟨gb653, 0, none⟩ (.int .i64 ((rd_T69 l0_1 (rd l4 x13_1)).f0))).setCell ⟨gb653, 1, none⟩ (.int .i64 ((rd_T69 l0_1 (rd l4 x13_1)).f1)))) := ⟨bel⟩
                   (try clear HO_11)
                   (try clear BK642)
                   (try clear BK653)
                   (try clear HB)
                   generalize ((w44.setCell ⟨gb653, 0, none⟩ (.int .i64 ((rd_T69 l0_1 (rd l4 x13_1)).f0))).setCell ⟨gb653, 1, none⟩ (.int .i64 ((rd_T69 l0_1 (rd l4 x13_1)).f1))) = w47 at n0_ n1_ n2_ n3_ ⊢
                   have HO_11 := n0_
                   have BK642 := n1_
                   have BK653 := n2_
                   have HB := n3_
                   clear n0_ n1_ n2_ n3_
                   have hnb48 := NB653_642.out
                   have hnc48 := NB642_653.out
                   have hcz49_0 := blkc BK653.out 0 (.int .i64 ((rd_T69 l0_1 (rd l4 x13_1)).f0)) rfl
                   have hcz49_1 := blkc BK653.out 1 (.int .i64 ((rd_T69 l0_1 (rd l4 x13_1)).f1)) rfl
                   have hfz49_0 := blk_frozen BK653.out 0
                   have hfz49_1 := blk_frozen BK653.out 1
                   have p654 : 0 ≤ (((rd_T69 l0_1 (rd l4 x13_1)).f1) : Int) := of_decide_eq_true asz
                   have q654 : ((rd_T69 l0_1 (rd l4 x13_1)).f1) < (x11_1.length : Int) := of_decide_eq_true asz
                   obtain ⟨ad654, e654, hx654_0⟩ := Kd.at_bool (Kd.R_reads' HO_11.out).2.2 ((rd_T69 l0_1 (rd l4 x13_1)).f1) p654 q654
                   (try rw [← Nbq34.out] at hx654_0)
                   obtain rfl : (⟨go10, 0, none⟩ : Addr) = ad654 := (by injection e654)
                   (first | simp only [add_plain] at hx654_0 | simp only [add_at] at hx654_0 | simp only [Addr.add, Nat.zero_add] at hx654_0 | skip)
                   replace p654 := eq_true p654
                   replace q654 := eq_true q654
                   have p42 : 0 ≤ (((rd_T69 l0_1 (rd l4 x13_1)).f1) : Int) := of_decide_eq_true asz
                   have q42 : (((rd_T69 l0_1 (rd l4 x13_1)).f1) : Int) < ((x11_1.length : Int) : Int) := of_decide_eq_true asz
                   obtain ⟨hx42_0, hf42_0⟩ := Kd.R_celln false HO_11.out (((rd_T69 l0_1 (rd l4 x13_1)).f1) : Int) p42 q42
                   replace p42 := eq_true p42
                   replace q42 := eq_true q42
                   obtain ⟨hy50_, hz50_⟩ := Kd.R_celln false HO_11.out (((rd_T69 l0_1 (rd l4 x13_1)).f1) : Int) (of_decide_eq_true asz) (of_decide_eq_true asz)
                   have HP50 := Kd.R_putg HO_11.out (((rd_T69 l0_1 (rd l4 x13_1)).f1) : Int) true
                   try go_wp2_with (first | ((with_reducible refine gate_store (t := 4) (p := 80) rfl ?_); refine store_event (t := 4) (p := 80) (v := ?vo_w51) (w1 := (w47.setCell ⟨go10, (((rd_T69 l0_1 (rd l4 x13_1)).f1) : Int).toNat, none⟩ (.bool true))) ?hg ?ho ?hn ?hr ?_; (case ho => rfl); (case hg => rfl); (case hn => rfl); (case hr => first | (go_simp; done) | (go_simp; rfl)); intro w51 hw; have hg : w47.grownBy w51 (some go10) := (by rw [hw]; exact HP50.2); have hp_ : Kd.R Kd.bool 4 w51 w.heap.size (fun _ => True) (.slice (some ⟨go10, 0, none⟩) x11_1.length co10) y655 := (by rw [hw, Ny655.out]; exact HP50.1); clear HP50; replace BK642 := Aside0.mk (blk_grown (g := gb642) (o := .cells #[.int .i64 a0_0, .slice (some ad652) l0_1.length c0_1, .slice A0_2 l0_2.length c0_2] 25 (0, 0)) blkz hg (Kd.R_ne HO_11.out BK642.out (by decide))); replace BK653 := Aside0.mk (blk_grown (g := gb653) (o := .cells #[.int .i64 ((rd_T69 l0_1 (rd l4 x13_1)).f0), .int .i64 ((rd_T69 l0_1 (rd l4 x13_1)).f1)] 69 (0, 0)) blkz hg (Kd.R_ne HO_11.out BK653.out (by decide))); replace HO_11 := Aside0.mk (hp_); replace HB := Aside0.mk ((by rw [hw]; exact below_set (HB.out) GB10.out : Below w.heap.size w w51)); clear hg hw hp_))
                   (try simp only [← hl11_1])
                   go_roundg kj17
                   case measure => have := HK1.out; have := HJ17.out; omega
                   case rel => exact ⟨(y655), ((rd_T69 l0_1 (rd l4 x13_1)).f1), (wrap64 (x13_1 + 1)), rsz, rsz, H', ⟨by have := HK1.out; have := HJ17.out; omega⟩, ⟨by (try simp only [hl11_1]); (with_reducible repeat (first | apply Kd.R_alloc | apply Kd.R_drewN | apply Kd.R_drew)); exact HO_11.out⟩, ⟨by (try simp only [hl11_1]); (with_reducible repeat (first | refine blk_drewN ?_ _ | refine blk_drew ?_ | refine blk_alloc ?_ _)); exact BK642.out⟩, ⟨bel⟩⟩
                 ·
                  rw [if_neg c33] at H
                  exact absurd H (by simp)
                ·
                 rw [if_neg c32] at H
                 exact absurd H (by simp)
               ·
                rw [if_neg c31] at H
                have c31b0 : (x12_1 == ((rd_T69 l0_1 (rd l4 x13_1)).f0)) = false := beq_eq_false_iff_ne.mpr c31
                have c31b1 : (x12_1 != ((rd_T69 l0_1 (rd l4 x13_1)).f0)) = true := bne_iff_ne.mpr c31
                by_cases c52 : x12_1 = ((rd_T69 l0_1 (rd l4 x13_1)).f1)
                ·
                 rw [if_pos c52] at H
                 have c52b0 : (x12_1 == ((rd_T69 l0_1 (rd l4 x13_1)).f1)) = true := beq_iff_eq.mpr c52
                 have c52b1 : (x12_1 != ((rd_T69 l0_1 (rd l4 x13_1)).f1)) = false := bne_eq_false_iff_eq.mpr c52
                 clear c52
                 by_cases c53 : 0 ≤ ((rd_T69 l0_1 (rd l4 x13_1)).f0)
                 ·
                  rw [if_pos c53] at H
                  have c53b0 : decide (0 ≤ ((rd_T69 l0_1 (rd l4 x13_1)).f0)) = true := decide_eq_true c53
                  clear c53
                  by_cases c54 : ((rd_T69 l0_1 (rd l4 x13_1)).f0) < (x11_1.length : Int)
                  ·
                   rw [if_pos c54] at H
                   have c54b0 : decide (((rd_T69 l0_1 (rd l4 x13_1)).f0) < (x11_1.length : Int)) = true := decide_eq_true c54
                   try (have c54b0hl11_1 := c54b0; simp only [hl11_1] at c54b0hl11_1)
                   clear c54
                   obtain ⟨bq55, hbq55⟩ : ∃ b_ : Bool, b_ = (rdOf false x11_1 ((rd_T69 l0_1 (rd l4 x13_1)).f0)) := ⟨_, rfl⟩
                   replace H : (if bq55 = true then (some false) else (dropperref05_leads.l0 kj17 a1 a3 l4 (x11_1.set (((rd_T69 l0_1 (rd l4 x13_1)).f0) : Int).toNat true) ((rd_T69 l0_1 (rd l4 x13_1)).f0) (wrap64 (x13_1 + 1)) a0_0 l0_1 l0_2)) = some r := by rw [← hbq55] at H; exact H
                   have Nbq55 := Aside0.mk hbq55
                   clear hbq55
                   by_cases c56 : bq55 = true
                   ·
                    subst c56
                    have H1 : (some false) = some r := by rw [if_pos rfl] at H; exact H
                    clear H
                    have H := H1
                    clear H1
                    obtain rfl := Option.some.inj H
                    try go_wp2
                    have n0_ := Aside0.mk (Kd.R_drew HO_11.out)
                    have n1_ := Aside0.mk (blk_drew BK642.out)
                    have n2_ := Aside0.mk (below_drew1 HB.out)
                    clear HO_11
                    clear BK642
                    clear HB
                    have HO_11 := n0_
                    have BK642 := n1_
                    have HB := n2_
                    clear n0_ n1_ n2_
                    have p651 : 0 ≤ (x13_1 : Int) := of_decide_eq_true asz
                    have q651 : x13_1 < (l4.length : Int) := of_decide_eq_true asz
                    obtain ⟨ad651, e651, hx651_0⟩ := Kd.at_int HR4.out x13_1 p651 q651
                    have hw651_0 := hx651_0
                    cases e651
                    replace hx651_0 := (HB.out.cell (World.block_lt_of_cell? w _ hx651_0)).trans hx651_0
                    replace p651 := eq_true p651
                    replace q651 := eq_true q651
                    have p652 : 0 ≤ ((rd l4 x13_1) : Int) := of_decide_eq_true asz
                    have q652 : (rd l4 x13_1) < (l0_1.length : Int) := of_decide_eq_true asz
                    obtain ⟨ad652, e652, hx652_0, hx652_1⟩ := at_T69 HR0_1.out (rd l4 x13_1) p652 q652
                    have hw652_1 := hx652_1
                    have hw652_0 := hx652_0
                    cases e652
                    replace hx652_0 := (HB.out.cell (World.block_lt_of_cell? w _ hx652_0)).trans hx652_0
                    replace hx652_1 := (HB.out.cell (World.block_lt_of_cell? w _ hx652_1)).trans hx652_1
                    replace p652 := eq_true p652
                    replace q652 := eq_true q652
                    refine start_ (n := 10) (S := fun w' => w'.cell? ⟨gb642, 0, none⟩ = some (.int .i64 a0_0) ∧ w'.cell? ⟨gb642, 1, none⟩ = some (.slice (some ad652) l0_1.length c0_1) ∧ w'.cell? ⟨gb642, 2, none⟩ = some (.slice A0_2 l0_2.length c0_2) ∧ w'.cell? (ad651.add (x13_1).toNat) = some (.int .i64 (rd l4 x13_1)) ∧ w'.cell? (ad652.add (((rd l4 x13_1)).toNat * 2)) = some (.int .i64 ((rd_T69 l0_1 (rd l4 x13_1)).f0)) ∧ w'.cell? ⟨(ad652.add (((rd l4 x13_1)).toNat * 2)).block, (ad652.add (((rd l4 x13_1)).toNat * 2)).off + 1, none⟩ = some (.int .i64 ((rd_T69 l0_1 (rd l4 x13_1)).f1))) (ds := []) #[false, false, false, false, false, false, false, false, false, false] (by kernel_rfl) rfl rfl ⟨(blk_cell BK642.out 0).trans rfl, (blk_cell BK642.out 1).trans rfl, (blk_cell BK642.out 2).trans rfl, ((HB.out.cell (World.block_lt_of_cell? w _ hw651_0)).trans hw651_0), ((HB.out.cell (World.block_lt_of_cell? w _ hw652_0)).trans hw652_0), ((HB.out.cell (World.block_lt_of_cell? w _ hw652_1)).trans hw652_1)⟩ (fun hHeld => ?_); refine with_tabW dropperref05_leads.tab9 dropperref05_leads.bits9 (fun HT_ HW_ => ?_)
                    generalize wc.drew = w57 at HO_11 BK642 HB hx651_0 hx652_0 hx652_1 hHeld ⊢
                    refine pst (i := 0) (N := some 53) (bz 10 1) (any_of HT_.out (by kernel_rfl)) ?_
                    refine pst (i := 2) (N := some 55) (bz 10 5) (any_of HT_.out (by kernel_rfl)) ?_
                    refine pst (i := 3) (N := some 56) (bz 10 13) (any_of HT_.out (by kernel_rfl)) ?_
                    refine pst (i := 4) (N := some 57) (bz 10 29) (any_of HT_.out (by kernel_rfl)) ?_
                    refine tst6 (i := 1) (N := some 54) (bz 10 31) (take_ofW HT_.out HW_.out (by kernel_rfl)) hHeld ?_
                    refine tst6 (i := 5) (N := some 58) (bz 10 63) (take_ofW HT_.out HW_.out (by kernel_rfl)) hHeld ?_
                    refine pst (i := 6) (N := some 59) (bz 10 127) (any_of HT_.out (by kernel_rfl)) ?_
                    refine tst6 (i := 7) (N := some 60) (bz 10 255) (take_ofW HT_.out HW_.out (by kernel_rfl)) hHeld ?_
                    refine one_ (i := 8) (N := some 14) #[true, true, true, true, true, true, true, true, true, false] rfl rfl (one_of HT_.out (by kernel_rfl)) (by decide) (fun K hK => ?_)
                    refine box_step ?hg (N := 14) ?hd (cs := #[.int .i64 0, .int .i64 0]) (t := 69) ?hr ?_; (case hd => rfl); (case hg => rfl); (case hr => first | (go_simp; done) | (go_simp; rfl))
                    intro gb653 hg w58 hbox hb
                    have n0_ := Aside0.mk (Kd.R_below (ownx HO_11) hb)
                    have n1_ := Aside0.mk (blk_below (g := gb642) blkz hb)
                    have n2_ := Aside0.mk (below_step bel hb)
                    have n3_ := Aside0.mk (hbox)
                    have n4_ := bsz (w := w) hg
                    have n5_ := bsz (w := w) hg
                    have n6_ := neL (g := gb642) hg
                    have n7_ := neR (g := gb642) hg
                    clear HO_11
                    clear BK642
                    clear HB
                    have HO_11 := n0_
                    have BK642 := n1_
                    have HB := n2_
                    have BK653 := n3_
                    have GW653 := n4_
                    have GE653 := n5_
                    have NB642_653 := n6_
                    have NB653_642 := n7_
                    clear n0_ n1_ n2_ n3_ n4_ n5_ n6_ n7_
                    clear hb hbox hg
                    refine hK.out _ _ ⟨(blk_cell BK642.out 0).trans rfl, (blk_cell BK642.out 1).trans rfl, (blk_cell BK642.out 2).trans rfl, ((HB.out.cell (World.block_lt_of_cell? w _ hw651_0)).trans hw651_0), ((HB.out.cell (World.block_lt_of_cell? w _ hw652_0)).trans hw652_0), ((HB.out.cell (World.block_lt_of_cell? w _ hw652_1)).trans hw652_1)⟩ (fun hHeld => ?_)
                    clear hK K
                    refine norm_ (a' := ?_) ?_ ?_
                    rotate_left
                    ·
                     show Act.put _ (some 14) _ = _
                     simp only [Act.put, List.setIfInBounds_toArray, List.set_cons_zero, List.set_cons_succ, i64_w, i32_w]
                     rfl
                    refine one_ (i := 9) (N := none) #[true, true, true, true, true, true, true, true, true, true] rfl rfl (one_of HT_.out (by kernel_rfl)) (by decide) (fun K hK => ?_)
                    have hs59 : w58.cell? ⟨gb653, 0, none⟩ = some (.int .i64 0) := (blk_cell BK653.out 0).trans rfl
                    have hfs59 := blk_frozen BK653.out 0
                    have hns59_0 := NB642_653.out
                    have hms59_0 := NB653_642.out
                    have hs60 : w58.cell? ⟨gb653, 1, none⟩ = some (.int .i64 0) := (blk_cell BK653.out 1).trans rfl
                    have hfs60 := blk_frozen BK653.out 1
                    have hns60_0 := NB642_653.out
                    have hms60_0 := NB653_642.out
                    refine skip_ (w1 := ?_) (by rfl) rfl ?_ ?_
                    rotate_left
                    ·
                     go_simp
                     rfl
                    refine hK.out _ _ ⟨((cell_far (p := ⟨gb653, _, none⟩) NB642_653.out _).trans (((cell_far (p := ⟨gb653, _, none⟩) NB642_653.out _).trans (hHeld.1)))), ((cell_far (p := ⟨gb653, _, none⟩) NB642_653.out _).trans (((cell_far (p := ⟨gb653, _, none⟩) NB642_653.out _).trans (hHeld.2.1)))), ((cell_far (p := ⟨gb653, _, none⟩) NB642_653.out _).trans (((cell_far (p := ⟨gb653, _, none⟩) NB642_653.out _).trans (hHeld.2.2.1)))), ((cell_far (p := ⟨gb653, _, none⟩) (by first | exact Nat.ne_of_lt (Nat.lt_of_lt_of_le (by have := World.block_lt_of_cell? _ _ hw651_0; first | rwa [add_block] at this | exact this) GW653.out) | (rw [add_block]; exact Nat.ne_of_lt (Nat.lt_of_lt_of_le (by have := World.block_lt_of_cell? _ _ hw651_0; first | rwa [add_block] at this | exact this) GW653.out)) | (show (Addr.add _ _).block ≠ _; rw [add_block]; exact Nat.ne_of_lt (Nat.lt_of_lt_of_le (by have := World.block_lt_of_cell? _ _ hw651_0; first | rwa [add_block] at this | exact this) GW653.out)) | (dsimp only; exact Nat.ne_of_lt (Nat.lt_of_lt_of_le (by have := World.block_lt_of_cell? _ _ hw651_0; first | rwa [add_block] at this | exact this) GW653.out))) _).trans (((cell_far (p := ⟨gb653, _, none⟩) (by first | exact Nat.ne_of_lt (Nat.lt_of_lt_of_le (by have := World.block_lt_of_cell? _ _ hw651_0; first | rwa [add_block] at this | exact this) GW653.out) | (rw [add_block]; exact Nat.ne_of_lt (Nat.lt_of_lt_of_le (by have := World.block_lt_of_cell? _ _ hw651_0; first | rwa [add_block] at this | exact this) GW653.out)) | (show (Addr.add _ _).block ≠ _; rw [add_block]; exact Nat.ne_of_lt (Nat.lt_of_lt_of_le (by have := World.block_lt_of_cell? _ _ hw651_0; first | rwa [add_block] at this | exact this) GW653.out)) | (dsimp only; exact Nat.ne_of_lt (Nat.lt_of_lt_of_le (by have := World.block_lt_of_cell? _ _ hw651_0; first | rwa [add_block] at this | exact this) GW653.out))) _).trans (hHeld.2.2.2.1)))), ((cell_far (p := ⟨gb653, _, none⟩) (by first | exact Nat.ne_of_lt (Nat.lt_of_lt_of_le (by have := World.block_lt_of_cell? _ _ hw652_0; first | rwa [add_block] at this | exact this) GW653.out) | (rw [add_block]; exact Nat.ne_of_lt (Nat.lt_of_lt_of_le (by have := World.block_lt_of_cell? _ _ hw652_0; first | rwa [add_block] at this | exact this) GW653.out)) | (show (Addr.add _ _).block ≠ _; rw [add_block]; exact Nat.ne_of_lt (Nat.lt_of_lt_of_le (by have := World.block_lt_of_cell? _ _ hw652_0; first | rwa [add_block] at this | exact this) GW653.out)) | (dsimp only; exact Nat.ne_of_lt (Nat.lt_of_lt_of_le (by have := World.block_lt_of_cell? _ _ hw652_0; first | rwa [add_block] at this | exact this) GW653.out))) _).trans (((cell_far (p := ⟨gb653, _, none⟩) (by first | exact Nat.ne_of_lt (Nat.lt_of_lt_of_le (by have := World.block_lt_of_cell? _ _ hw652_0; first | rwa [add_block] at this | exact this) GW653.out) | (rw [add_block]; exact Nat.ne_of_lt (Nat.lt_of_lt_of_le (by have := World.block_lt_of_cell? _ _ hw652_0; first | rwa [add_block] at this | exact this) GW653.out)) | (show (Addr.add _ _).block ≠ _; rw [add_block]; exact Nat.ne_of_lt (Nat.lt_of_lt_of_le (by have := World.block_lt_of_cell? _ _ hw652_0; first | rwa [add_block] at this | exact this) GW653.out)) | (dsimp only; exact Nat.ne_of_lt (Nat.lt_of_lt_of_le (by have := World.block_lt_of_cell? _ _ hw652_0; first | rwa [add_block] at this | exact this) GW653.out))) _).trans (hHeld.2.2.2.2.1)))), ((cell_far (p := ⟨gb653, _, none⟩) (by first | exact Nat.ne_of_lt (Nat.lt_of_lt_of_le (by have := World.block_lt_of_cell? _ _ hw652_1; first | rwa [add_block] at this | exact this) GW653.out) | (rw [add_block]; exact Nat.ne_of_lt (Nat.lt_of_lt_of_le (by have := World.block_lt_of_cell? _ _ hw652_1; first | rwa [add_block] at this | exact this) GW653.out)) | (show (Addr.add _ _).block ≠ _; rw [add_block]; exact Nat.ne_of_lt (Nat.lt_of_lt_of_le (by have := World.block_lt_of_cell? _ _ hw652_1; first | rwa [add_block] at this | exact this) GW653.out)) | (dsimp only; exact Nat.ne_of_lt (Nat.lt_of_lt_of_le (by have := World.block_lt_of_cell? _ _ hw652_1; first | rwa [add_block] at this | exact this) GW653.out))) _).trans (((cell_far (p := ⟨gb653, _, none⟩) (by first | exact Nat.ne_of_lt (Nat.lt_of_lt_of_le (by have := World.block_lt_of_cell? _ _ hw652_1; first | rwa [add_block] at this | exact this) GW653.out) | (rw [add_block]; exact Nat.ne_of_lt (Nat.lt_of_lt_of_le (by have := World.block_lt_of_cell? _ _ hw652_1; first | rwa [add_block] at this | exact this) GW653.out)) | (show (Addr.add _ _).block ≠ _; rw [add_block]; exact Nat.ne_of_lt (Nat.lt_of_lt_of_le (by have := World.block_lt_of_cell? _ _ hw652_1; first | rwa [add_block] at this | exact this) GW653.out)) | (dsimp only; exact Nat.ne_of_lt (Nat.lt_of_lt_of_le (by have := World.block_lt_of_cell? _ _ hw652_1; first | rwa [add_block] at this | exact this) GW653.out))) _).trans (hHeld.2.2.2.2.2))))⟩ (fun hHeld => ?_)
                    clear hK K
                    refine done_ (done_of HT_.out (by kernel_rfl)) ?_
                    have hnb61 := NB653_642.out
                    have hnc61 := NB642_653.out
                    have hcz62_0 := blkc BK653.out 0 (.int .i64 0) rfl
                    have hcz62_1 := blkc BK653.out 1 (.int .i64 0) rfl
                    have hfz62_0 := blk_frozen BK653.out 0
                    have hfz62_1 := blk_frozen BK653.out 1
                    have p656 : 0 ≤ (((rd_T69 l0_1 (rd l4 x13_1)).f0) : Int) := of_decide_eq_true asz
                    have q656 : ((rd_T69 l0_1 (rd l4 x13_1)).f0) < (x11_1.length : Int) := of_decide_eq_true asz
                    obtain ⟨ad656, e656, hx656_0⟩ := Kd.at_bool (Kd.R_reads' HO_11.out).2.2 ((rd_T69 l0_1 (rd l4 x13_1)).f0) p656 q656
                    (try rw [← Nbq55.out] at hx656_0)
                    obtain rfl : (⟨go10, 0, none⟩ : Addr) = ad656 := (by injection e656)
                    (first | simp only [add_plain] at hx656_0 | simp only [add_at] at hx656_0 | simp only [Addr.add, Nat.zero_add] at hx656_0 | skip)
                    have hn656_0 : (⟨go10, 0, none⟩ : Addr).block ≠ gb653 := Kd.own_blk (Kd.R_ne HO_11.out BK653.out (by decide))
                    have hn656_1 : (⟨go10, 0, none⟩ : Addr).block ≠ gb653 := Kd.own_blk (Kd.R_ne HO_11.out BK653.out (by decide))
                    replace hx656_0 := (cell_far (p := ⟨gb653, 0, none⟩) (by first | (rw [add_block]; exact hn656_0) | (show (Addr.add _ _).block ≠ _; rw [add_block]; exact hn656_0) | exact hn656_0) (.int .i64 ((rd_T69 l0_1 (rd l4 x13_1)).f0))).trans hx656_0
                    replace hx656_0 := (cell_far (p := ⟨gb653, 1, none⟩) (by first | (rw [add_block]; exact hn656_1) | (show (Addr.add _ _).block ≠ _; rw [add_block]; exact hn656_1) | exact hn656_1) (.int .i64 ((rd_T69 l0_1 (rd l4 x13_1)).f1))).trans hx656_0
                    clear hn656_0
                    clear hn656_1
                    replace p656 := eq_true p656
                    replace q656 := eq_true q656
                    try go_wp2
                    go_ret
                    exact ⟨ezz, bel⟩
                   ·
                    replace c56 := Bool.eq_false_iff.mpr c56
                    subst c56
                    have H1 : (dropperref05_leads.l0 kj17 a1 a3 l4 (x11_1.set (((rd_T69 l0_1 (rd l4 x13_1)).f0) : Int).toNat true) ((rd_T69 l0_1 (rd l4 x13_1)).f0) (wrap64 (x13_1 + 1)) a0_0 l0_1 l0_2) = some r := by rw [if_neg (show ¬ (false = true) by decide)] at H; exact H
                    clear H
                    have H := H1
                    clear H1
                    obtain ⟨y657, hy657⟩ : ∃ y_ : List Bool, y_ = (x11_1.set (((rd_T69 l0_1 (rd l4 x13_1)).f0) : Int).toNat true) := ⟨_, rfl⟩
                    replace H : (dropperref05_leads.l0 kj17 a1 a3 l4 y657 ((rd_T69 l0_1 (rd l4 x13_1)).f0) (wrap64 (x13_1 + 1)) a0_0 l0_1 l0_2) = some r := by first | (rw [hy657]; with_reducible exact H) | (have H2_ := (Option.bind_some _ _).symm.trans H; rw [hy657]; with_reducible exact H2_) | (have H2_ := (Option.bind_some _ _).symm.trans H; with_reducible exact H2_) | with_reducible exact H | (rw [hy657]; exact H) | exact H
                    have Ny657 := Aside0.mk hy657
                    clear hy657
                    have H' := Aside0.mk H
                    clear H
                    try go_wp2
                    have n0_ := Aside0.mk (Kd.R_drew HO_11.out)
                    have n1_ := Aside0.mk (blk_drew BK642.out)
                    have n2_ := Aside0.mk (below_drew1 HB.out)
                    clear HO_11
                    clear BK642
                    clear HB
                    have HO_11 := n0_
                    have BK642 := n1_
                    have HB := n2_
                    clear n0_ n1_ n2_
                    have p651 : 0 ≤ (x13_1 : Int) := of_decide_eq_true asz
                    have q651 : x13_1 < (l4.length : Int) := of_decide_eq_true asz
                    obtain ⟨ad651, e651, hx651_0⟩ := Kd.at_int HR4.out x13_1 p651 q651
                    have hw651_0 := hx651_0
                    cases e651
                    replace hx651_0 := (HB.out.cell (World.block_lt_of_cell? w _ hx651_0)).trans hx651_0
                    replace p651 := eq_true p651
                    replace q651 := eq_true q651
                    have p652 : 0 ≤ ((rd l4 x13_1) : Int) := of_decide_eq_true asz
                    have q652 : (rd l4 x13_1) < (l0_1.length : Int) := of_decide_eq_true asz
                    obtain ⟨ad652, e652, hx652_0, hx652_1⟩ := at_T69 HR0_1.out (rd l4 x13_1) p652 q652
                    have hw652_1 := hx652_1
                    have hw652_0 := hx652_0
                    cases e652
                    replace hx652_0 := (HB.out.cell (World.block_lt_of_cell? w _ hx652_0)).trans hx652_0
                    replace hx652_1 := (HB.out.cell (World.block_lt_of_cell? w _ hx652_1)).trans hx652_1
                    replace p652 := eq_true p652
                    replace q652 := eq_true q652
                    refine start_ (n := 10) (S := fun w' => w'.cell? ⟨gb642, 0, none⟩ = some (.int .i64 a0_0) ∧ w'.cell? ⟨gb642, 1, none⟩ = some (.slice (some ad652) l0_1.length c0_1) ∧ w'.cell? ⟨gb642, 2, none⟩ = some (.slice A0_2 l0_2.length c0_2) ∧ w'.cell? (ad651.add (x13_1).toNat) = some (.int .i64 (rd l4 x13_1)) ∧ w'.cell? (ad652.add (((rd l4 x13_1)).toNat * 2)) = some (.int .i64 ((rd_T69 l0_1 (rd l4 x13_1)).f0)) ∧ w'.cell? ⟨(ad652.add (((rd l4 x13_1)).toNat * 2)).block, (ad652.add (((rd l4 x13_1)).toNat * 2)).off + 1, none⟩ = some (.int .i64 ((rd_T69 l0_1 (rd l4 x13_1)).f1))) (ds := []) #[false, false, false, false, false, false, false, false, false, false] (by kernel_rfl) rfl rfl ⟨(blk_cell BK642.out 0).trans rfl, (blk_cell BK642.out 1).trans rfl, (blk_cell BK642.out 2).trans rfl, ((HB.out.cell (World.block_lt_of_cell? w _ hw651_0)).trans hw651_0), ((HB.out.cell (World.block_lt_of_cell? w _ hw652_0)).trans hw652_0), ((HB.out.cell (World.block_lt_of_cell? w _ hw652_1)).trans hw652_1)⟩ (fun hHeld => ?_); refine with_tabW dropperref05_leads.tab9 dropperref05_leads.bits9 (fun HT_ HW_ => ?_)
                    generalize wc.drew = w64 at HO_11 BK642 HB hx651_0 hx652_0 hx652_1 hHeld ⊢
                    refine pst (i := 0) (N := some 53) (bz 10 1) (any_of HT_.out (by kernel_rfl)) ?_
                    refine pst (i := 2) (N := some 55) (bz 10 5) (any_of HT_.out (by kernel_rfl)) ?_
                    refine pst (i := 3) (N := some 56) (bz 10 13) (any_of HT_.out (by kernel_rfl)) ?_
                    refine pst (i := 4) (N := some 57) (bz 10 29) (any_of HT_.out (by kernel_rfl)) ?_
                    refine tst6 (i := 1) (N := some 54) (bz 10 31) (take_ofW HT_.out HW_.out (by kernel_rfl)) hHeld ?_
                    refine tst6 (i := 5) (N := some 58) (bz 10 63) (take_ofW HT_.out HW_.out (by kernel_rfl)) hHeld ?_
                    refine pst (i := 6) (N := some 59) (bz 10 127) (any_of HT_.out (by kernel_rfl)) ?_
                    refine tst6 (i := 7) (N := some 60) (bz 10 255) (take_ofW HT_.out HW_.out (by kernel_rfl)) hHeld ?_
                    refine one_ (i := 8) (N := some 14) #[true, true, true, true, true, true, true, true, true, false] rfl rfl (one_of HT_.out (by kernel_rfl)) (by decide) (fun K hK => ?_)
                    refine box_step ?hg (N := 14) ?hd (cs := #[.int .i64 0, .int .i64 0]) (t := 69) ?hr ?_; (case hd => rfl); (case hg => rfl); (case hr => first | (go_simp; done) | (go_simp; rfl))
                    intro gb653 hg w65 hbox hb
                    have n0_ := Aside0.mk (Kd.R_below (ownx HO_11) hb)
                    have n1_ := Aside0.mk (blk_below (g := gb642) blkz hb)
                    have n2_ := Aside0.mk (below_step bel hb)
                    have n3_ := Aside0.mk (hbox)
                    have n4_ := bsz (w := w) hg
                    have n5_ := bsz (w := w) hg
                    have n6_ := neL (g := gb642) hg
                    have n7_ := neR (g := gb642) hg
                    clear HO_11
                    clear BK642
                    clear HB
                    have HO_11 := n0_
                    have BK642 := n1_
                    have HB := n2_
                    have BK653 := n3_
                    have GW653 := n4_
                    have GE653 := n5_
                    have NB642_653 := n6_
                    have NB653_642 := n7_
                    clear n0_ n1_ n2_ n3_ n4_ n5_ n6_ n7_
                    clear hb hbox hg
                    refine hK.out _ _ ⟨(blk_cell BK642.out 0).trans rfl, (blk_cell BK642.out 1).trans rfl, (blk_cell BK642.out 2).trans rfl, ((HB.out.cell (World.block_lt_of_cell? w _ hw651_0)).trans hw651_0), ((HB.out.cell (World.block_lt_of_cell? w _ hw652_0)).trans hw652_0), ((HB.out.cell (World.block_lt_of_cell? w _ hw652_1)).trans hw652_1)⟩ (fun hHeld => ?_)
                    clear hK K
                    refine norm_ (a' := ?_) ?_ ?_
                    rotate_left
                    ·
                     show Act.put _ (some 14) _ = _
                     simp only [Act.put, List.setIfInBounds_toArray, List.set_cons_zero, List.set_cons_succ, i64_w, i32_w]
                     rfl
                    refine one_ (i := 9) (N := none) #[true, true, true, true, true, true, true, true, true, true] rfl rfl (one_of HT_.out (by kernel_rfl)) (by decide) (fun K hK => ?_)
                    have hs66 : w65.cell? ⟨gb653, 0, none⟩ = some (.int .i64 0) := (blk_cell BK653.out 0).trans rfl
                    have hfs66 := blk_frozen BK653.out 0
                    have hns66_0 := NB642_653.out
                    have hms66_0 := NB653_642.out
                    have hs67 : w65.cell? ⟨gb653, 1, none⟩ = some (.int .i64 0) := (blk_cell BK653.out 1).trans rfl
                    have hfs67 := blk_frozen BK653.out 1
                    have hns67_0 := NB642_653.out
                    have hms67_0 := NB653_642.out
                    refine skip_ (w1 := ?_) (by rfl) rfl ?_ ?_
                    rotate_left
                    ·
                     go_simp
                     rfl
                    refine hK.out _ _ ⟨((cell_far (p := ⟨gb653, _, none⟩) NB642_653.out _).trans (((cell_far (p := ⟨gb653, _, none⟩) NB642_653.out _).trans (hHeld.1)))), ((cell_far (p := ⟨gb653, _, none⟩) NB642_653.out _).trans (((cell_far (p := ⟨gb653, _, none⟩) NB642_653.out _).trans (hHeld.2.1)))), ((cell_far (p := ⟨gb653, _, none⟩) NB642_653.out _).trans (((cell_far (p := ⟨gb653, _, none⟩) NB642_653.out _).trans (hHeld.2.2.1)))), ((cell_far (p := ⟨gb653, _, none⟩) (by first | exact Nat.ne_of_lt (Nat.lt_of_lt_of_le (by have := World.block_lt_of_cell? _ _ hw651_0; first | rwa [add_block] at this | exact this) GW653.out) | (rw [add_block]; exact Nat.ne_of_lt (Nat.lt_of_lt_of_le (by have := World.block_lt_of_cell? _ _ hw651_0; first | rwa [add_block] at this | exact this) GW653.out)) | (show (Addr.add _ _).block ≠ _; rw [add_block]; exact Nat.ne_of_lt (Nat.lt_of_lt_of_le (by have := World.block_lt_of_cell? _ _ hw651_0; first | rwa [add_block] at this | exact this) GW653.out)) | (dsimp only; exact Nat.ne_of_lt (Nat.lt_of_lt_of_le (by have := World.block_lt_of_cell? _ _ hw651_0; first | rwa [add_block] at this | exact this) GW653.out))) _).trans (((cell_far (p := ⟨gb653, _, none⟩) (by first | exact Nat.ne_of_lt (Nat.lt_of_lt_of_le (by have := World.block_lt_of_cell? _ _ hw651_0; first | rwa [add_block] at this | exact this) GW653.out) | (rw [add_block]; exact Nat.ne_of_lt (Nat.lt_of_lt_of_le (by have := World.block_lt_of_cell? _ _ hw651_0; first | rwa [add_block] at this | exact this) GW653.out)) | (show (Addr.add _ _).block ≠ _; rw [add_block]; exact Nat.ne_of_lt (Nat.lt_of_lt_of_le (by have := World.block_lt_of_cell? _ _ hw651_0; first | rwa [add_block] at this | exact this) GW653.out)) | (dsimp only; exact Nat.ne_of_lt (Nat.lt_of_lt_of_le (by have := World.block_lt_of_cell? _ _ hw651_0; first | rwa [add_block] at this | exact this) GW653.out))) _).trans (hHeld.2.2.2.1)))), ((cell_far (p := ⟨gb653, _, none⟩) (by first | exact Nat.ne_of_lt (Nat.lt_of_lt_of_le (by have := World.block_lt_of_cell? _ _ hw652_0; first | rwa [add_block] at this | exact this) GW653.out) | (rw [add_block]; exact Nat.ne_of_lt (Nat.lt_of_lt_of_le (by have := World.block_lt_of_cell? _ _ hw652_0; first | rwa [add_block] at this | exact this) GW653.out)) | (show (Addr.add _ _).block ≠ _; rw [add_block]; exact Nat.ne_of_lt (Nat.lt_of_lt_of_le (by have := World.block_lt_of_cell? _ _ hw652_0; first | rwa [add_block] at this | exact this) GW653.out)) | (dsimp only; exact Nat.ne_of_lt (Nat.lt_of_lt_of_le (by have := World.block_lt_of_cell? _ _ hw652_0; first | rwa [add_block] at this | exact this) GW653.out))) _).trans (((cell_far (p := ⟨gb653, _, none⟩) (by first | exact Nat.ne_of_lt (Nat.lt_of_lt_of_le (by have := World.block_lt_of_cell? _ _ hw652_0; first | rwa [add_block] at this | exact this) GW653.out) | (rw [add_block]; exact Nat.ne_of_lt (Nat.lt_of_lt_of_le (by have := World.block_lt_of_cell? _ _ hw652_0; first | rwa [add_block] at this | exact this) GW653.out)) | (show (Addr.add _ _).block ≠ _; rw [add_block]; exact Nat.ne_of_lt (Nat.lt_of_lt_of_le (by have := World.block_lt_of_cell? _ _ hw652_0; first | rwa [add_block] at this | exact this) GW653.out)) | (dsimp only; exact Nat.ne_of_lt (Nat.lt_of_lt_of_le (by have := World.block_lt_of_cell? _ _ hw652_0; first | rwa [add_block] at this | exact this) GW653.out))) _).trans (hHeld.2.2.2.2.1)))), ((cell_far (p := ⟨gb653, _, none⟩) (by first | exact Nat.ne_of_lt (Nat.lt_of_lt_of_le (by have := World.block_lt_of_cell? _ _ hw652_1; first | rwa [add_block] at this | exact this) GW653.out) | (rw [add_block]; exact Nat.ne_of_lt (Nat.lt_of_lt_of_le (by have := World.block_lt_of_cell? _ _ hw652_1; first | rwa [add_block] at this | exact this) GW653.out)) | (show (Addr.add _ _).block ≠ _; rw [add_block]; exact Nat.ne_of_lt (Nat.lt_of_lt_of_le (by have := World.block_lt_of_cell? _ _ hw652_1; first | rwa [add_block] at this | exact this) GW653.out)) | (dsimp only; exact Nat.ne_of_lt (Nat.lt_of_lt_of_le (by have := World.block_lt_of_cell? _ _ hw652_1; first | rwa [add_block] at this | exact this) GW653.out))) _).trans (((cell_far (p := ⟨gb653, _, none⟩) (by first | exact Nat.ne_of_lt (Nat.lt_of_lt_of_le (by have := World.block_lt_of_cell? _ _ hw652_1; first | rwa [add_block] at this | exact this) GW653.out) | (rw [add_block]; exact Nat.ne_of_lt (Nat.lt_of_lt_of_le (by have := World.block_lt_of_cell? _ _ hw652_1; first | rwa [add_block] at this | exact this) GW653.out)) | (show (Addr.add _ _).block ≠ _; rw [add_block]; exact Nat.ne_of_lt (Nat.lt_of_lt_of_le (by have := World.block_lt_of_cell? _ _ hw652_1; first | rwa [add_block] at this | exact this) GW653.out)) | (dsimp only; exact Nat.ne_of_lt (Nat.lt_of_lt_of_le (by have := World.block_lt_of_cell? _ _ hw652_1; first | rwa [add_block] at this | exact this) GW653.out))) _).trans (hHeld.2.2.2.2.2))))⟩ (fun hHeld => ?_)
                    clear hK K
                    refine done_ (done_of HT_.out (by kernel_rfl)) ?_
                    have n0_ : Aside0 (Kd.R Kd.bool 4 ((w65.setCell ⟨gb653, 0, none⟩ (.int .i64 ((rd_T69 l0_1 (rd l4 x13_1)).f0))).setCell ⟨gb653, 1, none⟩ (.int .i64 ((rd_T69 l0_1 (rd l4 x13_1)).f1))) w.heap.size (fun _ => True) (.slice (some ⟨go10, 0, none⟩) x11_1.length co10) x11_1) := ⟨by (with_reducible repeat (first | apply Kd.R_alloc | apply Kd.R_drewN | apply Kd.R_drew)); exact Kd.R_mono (Kd.R_far (p := ⟨gb653, 1, none⟩) (Kd.R_far (p := ⟨gb653, 0, none⟩) (Kd.R_types HO_11.out BK653.out (by decide)) (fun _ hk => hk.2) (.int .i64 ((rd_T69 l0_1 (rd l4 x13_1)).f0))) (fun _ hk => hk.2) (.int .i64 ((rd_T69 l0_1 (rd l4 x13_1)).f1))) (fun _ hk => trivial)⟩
                    have n1_ : Aside0 (((w65.setCell ⟨gb653, 0, none⟩ (.int .i64 ((rd_T69 l0_1 (rd l4 x13_1)).f0))).setCell ⟨gb653, 1, none⟩ (.int .i64 ((rd_T69 l0_1 (rd l4 x13_1)).f1))).heap[gb642]? = some (.cells #[.int .i64 a0_0, .slice (some ad652) l0_1.length c0_1, .slice A0_2 l0_2.length c0_2] 25 (0, 0))) := ⟨by (with_reducible repeat (first | refine blk_drewN ?_ _ | refine blk_drew ?_ | refine blk_alloc ?_ _)); refine blk_far ?_ NB642_653.out _; (with_reducible repeat (first | refine blk_drewN ?_ _ | refine blk_drew ?_ | refine blk_alloc ?_ _)); refine blk_far ?_ NB642_653.out _; (with_reducible repeat (first | refine blk_drewN ?_ _ | refine blk_drew ?_ | refine blk_alloc ?_ _)); exact BK642.out⟩
                    have n2_ : Aside0 (((w65.setCell ⟨gb653, 0, none⟩ (.int .i64 ((rd_T69 l0_1 (rd l4 x13_1)).f0))).setCell ⟨gb653, 1, none⟩ (.int .i64 ((rd_T69 l0_1 (rd l4 x13_1)).f1))).heap[gb653]? = some (.cells #[.int .i64 ((rd_T69 l0_1 (rd l4 x13_1)).f0), .int .i64 ((rd_T69 l0_1 (rd l4 x13_1)).f1)] 69 (0, 0))) := ⟨by (with_reducible repeat (first | refine blk_drewN ?_ _ | refine blk_drew ?_ | refine blk_alloc ?_ _)); refine blk_put (cs := #[.int .i64 ((rd_T69 l0_1 (rd l4 x13_1)).f0), .int .i64 0]) ?_ 1 _ rfl; (with_reducible repeat (first | refine blk_drewN ?_ _ | refine blk_drew ?_ | refine blk_alloc ?_ _)); refine blk_put (cs := #[.int .i64 0, .int .i64 0]) ?_ 0 _ rfl; (with_reducible repeat (first | refine blk_drewN ?_ _ | refine blk_drew ?_ | refine blk_alloc ?_ _)); exact BK653.out⟩
                    have n3_ : Aside0 (Below w.heap.size w ((w65.setCell ⟨gb653, 0, none⟩ (.int .i64 ((rd_T69 l0_1 (rd l4 x13_1)).f0))).setCell ⟨gb653, 1, none⟩ (.int .i64 ((rd_T69 l0_1 (rd l4 x13_1)).f1)))) := ⟨bel⟩
                    (try clear HO_11)
                    (try clear BK642)
                    (try clear BK653)
                    (try clear HB)
                    generalize ((w65.setCell ⟨gb653, 0, none⟩ (.int .i64 ((rd_T69 l0_1 (rd l4 x13_1)).f0))).setCell ⟨gb653, 1, none⟩ (.int .i64 ((rd_T69 l0_1 (rd l4 x13_1)).f1))) = w68 at n0_ n1_ n2_ n3_ ⊢
                    have HO_11 := n0_
                    have BK642 := n1_
                    have BK653 := n2_
                    have HB := n3_
                    clear n0_ n1_ n2_ n3_
                    have hnb69 := NB653_642.out
                    have hnc69 := NB642_653.out
                    have hcz70_0 := blkc BK653.out 0 (.int .i64 ((rd_T69 l0_1 (rd l4 x13_1)).f0)) rfl
                    have hcz70_1 := blkc BK653.out 1 (.int .i64 ((rd_T69 l0_1 (rd l4 x13_1)).f1)) rfl
                    have hfz70_0 := blk_frozen BK653.out 0
                    have hfz70_1 := blk_frozen BK653.out 1
                    have p656 : 0 ≤ (((rd_T69 l0_1 (rd l4 x13_1)).f0) : Int) := of_decide_eq_true asz
                    have q656 : ((rd_T69 l0_1 (rd l4 x13_1)).f0) < (x11_1.length : Int) := of_decide_eq_true asz
                    obtain ⟨ad656, e656, hx656_0⟩ := Kd.at_bool (Kd.R_reads' HO_11.out).2.2 ((rd_T69 l0_1 (rd l4 x13_1)).f0) p656 q656
                    (try rw [← Nbq55.out] at hx656_0)
                    obtain rfl : (⟨go10, 0, none⟩ : Addr) = ad656 := (by injection e656)
                    (first | simp only [add_plain] at hx656_0 | simp only [add_at] at hx656_0 | simp only [Addr.add, Nat.zero_add] at hx656_0 | skip)
                    replace p656 := eq_true p656
                    replace q656 := eq_true q656
                    have p63 : 0 ≤ (((rd_T69 l0_1 (rd l4 x13_1)).f0) : Int) := of_decide_eq_true asz
                    have q63 : (((rd_T69 l0_1 (rd l4 x13_1)).f0) : Int) < ((x11_1.length : Int) : Int) := of_decide_eq_true asz
                    obtain ⟨hx63_0, hf63_0⟩ := Kd.R_celln false HO_11.out (((rd_T69 l0_1 (rd l4 x13_1)).f0) : Int) p63 q63
                    replace p63 := eq_true p63
                    replace q63 := eq_true q63
                    obtain ⟨hy71_, hz71_⟩ := Kd.R_celln false HO_11.out (((rd_T69 l0_1 (rd l4 x13_1)).f0) : Int) (of_decide_eq_true asz) (of_decide_eq_true asz)
                    have HP71 := Kd.R_putg HO_11.out (((rd_T69 l0_1 (rd l4 x13_1)).f0) : Int) true
                    try go_wp2_with (first | ((with_reducible refine gate_store (t := 4) (p := 80) rfl ?_); refine store_event (t := 4) (p := 80) (v := ?vo_w72) (w1 := (w68.setCell ⟨go10, (((rd_T69 l0_1 (rd l4 x13_1)).f0) : Int).toNat, none⟩ (.bool true))) ?hg ?ho ?hn ?hr ?_; (case ho => rfl); (case hg => rfl); (case hn => rfl); (case hr => first | (go_simp; done) | (go_simp; rfl)); intro w72 hw; have hg : w68.grownBy w72 (some go10) := (by rw [hw]; exact HP71.2); have hp_ : Kd.R Kd.bool 4 w72 w.heap.size (fun _ => True) (.slice (some ⟨go10, 0, none⟩) x11_1.length co10) y657 := (by rw [hw, Ny657.out]; exact HP71.1); clear HP71; replace BK642 := Aside0.mk (blk_grown (g := gb642) (o := .cells #[.int .i64 a0_0, .slice (some ad652) l0_1.length c0_1, .slice A0_2 l0_2.length c0_2] 25 (0, 0)) blkz hg (Kd.R_ne HO_11.out BK642.out (by decide))); replace BK653 := Aside0.mk (blk_grown (g := gb653) (o := .cells #[.int .i64 ((rd_T69 l0_1 (rd l4 x13_1)).f0), .int .i64 ((rd_T69 l0_1 (rd l4 x13_1)).f1)] 69 (0, 0)) blkz hg (Kd.R_ne HO_11.out BK653.out (by decide))); replace HO_11 := Aside0.mk (hp_); replace HB := Aside0.mk ((by rw [hw]; exact below_set (HB.out) GB10.out : Below w.heap.size w w72)); clear hg hw hp_))
                    (try simp only [← hl11_1])
                    go_roundg kj17
                    case measure => have := HK1.out; have := HJ17.out; omega
                    case rel => exact ⟨(y657), ((rd_T69 l0_1 (rd l4 x13_1)).f0), (wrap64 (x13_1 + 1)), rsz, rsz, H', ⟨by have := HK1.out; have := HJ17.out; omega⟩, ⟨by (try simp only [hl11_1]); (with_reducible repeat (first | apply Kd.R_alloc | apply Kd.R_drewN | apply Kd.R_drew)); exact HO_11.out⟩, ⟨by (try simp only [hl11_1]); (with_reducible repeat (first | refine blk_drewN ?_ _ | refine blk_drew ?_ | refine blk_alloc ?_ _)); exact BK642.out⟩, ⟨bel⟩⟩
                  ·
                   rw [if_neg c54] at H
                   exact absurd H (by simp)
                 ·
                  rw [if_neg c53] at H
                  exact absurd H (by simp)
                ·
                 rw [if_neg c52] at H
                 have c52b0 : (x12_1 == ((rd_T69 l0_1 (rd l4 x13_1)).f1)) = false := beq_eq_false_iff_ne.mpr c52
                 have c52b1 : (x12_1 != ((rd_T69 l0_1 (rd l4 x13_1)).f1)) = true := bne_iff_ne.mpr c52
                 obtain rfl := Option.some.inj H
                 try go_wp2
                 have n0_ := Aside0.mk (Kd.R_drew HO_11.out)
                 have n1_ := Aside0.mk (blk_drew BK642.out)
                 have n2_ := Aside0.mk (below_drew1 HB.out)
                 clear HO_11
                 clear BK642
                 clear HB
                 have HO_11 := n0_
                 have BK642 := n1_
                 have HB := n2_
                 clear n0_ n1_ n2_
                 have p651 : 0 ≤ (x13_1 : Int) := of_decide_eq_true asz
                 have q651 : x13_1 < (l4.length : Int) := of_decide_eq_true asz
                 obtain ⟨ad651, e651, hx651_0⟩ := Kd.at_int HR4.out x13_1 p651 q651
                 have hw651_0 := hx651_0
                 cases e651
                 replace hx651_0 := (HB.out.cell (World.block_lt_of_cell? w _ hx651_0)).trans hx651_0
                 replace p651 := eq_true p651
                 replace q651 := eq_true q651
                 have p652 : 0 ≤ ((rd l4 x13_1) : Int) := of_decide_eq_true asz
                 have q652 : (rd l4 x13_1) < (l0_1.length : Int) := of_decide_eq_true asz
                 obtain ⟨ad652, e652, hx652_0, hx652_1⟩ := at_T69 HR0_1.out (rd l4 x13_1) p652 q652
                 have hw652_1 := hx652_1
                 have hw652_0 := hx652_0
                 cases e652
                 replace hx652_0 := (HB.out.cell (World.block_lt_of_cell? w _ hx652_0)).trans hx652_0
                 replace hx652_1 := (HB.out.cell (World.block_lt_of_cell? w _ hx652_1)).trans hx652_1
                 replace p652 := eq_true p652
                 replace q652 := eq_true q652
                 refine start_ (n := 10) (S := fun w' => w'.cell? ⟨gb642, 0, none⟩ = some (.int .i64 a0_0) ∧ w'.cell? ⟨gb642, 1, none⟩ = some (.slice (some ad652) l0_1.length c0_1) ∧ w'.cell? ⟨gb642, 2, none⟩ = some (.slice A0_2 l0_2.length c0_2) ∧ w'.cell? (ad651.add (x13_1).toNat) = some (.int .i64 (rd l4 x13_1)) ∧ w'.cell? (ad652.add (((rd l4 x13_1)).toNat * 2)) = some (.int .i64 ((rd_T69 l0_1 (rd l4 x13_1)).f0)) ∧ w'.cell? ⟨(ad652.add (((rd l4 x13_1)).toNat * 2)).block, (ad652.add (((rd l4 x13_1)).toNat * 2)).off + 1, none⟩ = some (.int .i64 ((rd_T69 l0_1 (rd l4 x13_1)).f1))) (ds := []) #[false, false, false, false, false, false, false, false, false, false] (by kernel_rfl) rfl rfl ⟨(blk_cell BK642.out 0).trans rfl, (blk_cell BK642.out 1).trans rfl, (blk_cell BK642.out 2).trans rfl, ((HB.out.cell (World.block_lt_of_cell? w _ hw651_0)).trans hw651_0), ((HB.out.cell (World.block_lt_of_cell? w _ hw652_0)).trans hw652_0), ((HB.out.cell (World.block_lt_of_cell? w _ hw652_1)).trans hw652_1)⟩ (fun hHeld => ?_); refine with_tabW dropperref05_leads.tab9 dropperref05_leads.bits9 (fun HT_ HW_ => ?_)
                 generalize wc.drew = w73 at HO_11 BK642 HB hx651_0 hx652_0 hx652_1 hHeld ⊢
                 refine pst (i := 0) (N := some 53) (bz 10 1) (any_of HT_.out (by kernel_rfl)) ?_
                 refine pst (i := 2) (N := some 55) (bz 10 5) (any_of HT_.out (by kernel_rfl)) ?_
                 refine pst (i := 3) (N := some 56) (bz 10 13) (any_of HT_.out (by kernel_rfl)) ?_
                 refine pst (i := 4) (N := some 57) (bz 10 29) (any_of HT_.out (by kernel_rfl)) ?_
                 refine tst6 (i := 1) (N := some 54) (bz 10 31) (take_ofW HT_.out HW_.out (by kernel_rfl)) hHeld ?_
                 refine tst6 (i := 5) (N := some 58) (bz 10 63) (take_ofW HT_.out HW_.out (by kernel_rfl)) hHeld ?_
                 refine pst (i := 6) (N := some 59) (bz 10 127) (any_of HT_.out (by kernel_rfl)) ?_
                 refine tst6 (i := 7) (N := some 60) (bz 10 255) (take_ofW HT_.out HW_.out (by kernel_rfl)) hHeld ?_
                 refine one_ (i := 8) (N := some 14) #[true, true, true, true, true, true, true, true, true, false] rfl rfl (one_of HT_.out (by kernel_rfl)) (by decide) (fun K hK => ?_)
                 refine box_step ?hg (N := 14) ?hd (cs := #[.int .i64 0, .int .i64 0]) (t := 69) ?hr ?_; (case hd => rfl); (case hg => rfl); (case hr => first | (go_simp; done) | (go_simp; rfl))
                 intro gb653 hg w74 hbox hb
                 have n0_ := Aside0.mk (Kd.R_below (ownx HO_11) hb)
                 have n1_ := Aside0.mk (blk_below (g := gb642) blkz hb)
                 have n2_ := Aside0.mk (below_step bel hb)
                 have n3_ := Aside0.mk (hbox)
                 have n4_ := bsz (w := w) hg
                 have n5_ := bsz (w := w) hg
                 have n6_ := neL (g := gb642) hg
                 have n7_ := neR (g := gb642) hg
                 clear HO_11
                 clear BK642
                 clear HB
                 have HO_11 := n0_
                 have BK642 := n1_
                 have HB := n2_
                 have BK653 := n3_
                 have GW653 := n4_
                 have GE653 := n5_
                 have NB642_653 := n6_
                 have NB653_642 := n7_
                 clear n0_ n1_ n2_ n3_ n4_ n5_ n6_ n7_
                 clear hb hbox hg
                 refine hK.out _ _ ⟨(blk_cell BK642.out 0).trans rfl, (blk_cell BK642.out 1).trans rfl, (blk_cell BK642.out 2).trans rfl, ((HB.out.cell (World.block_lt_of_cell? w _ hw651_0)).trans hw651_0), ((HB.out.cell (World.block_lt_of_cell? w _ hw652_0)).trans hw652_0), ((HB.out.cell (World.block_lt_of_cell? w _ hw652_1)).trans hw652_1)⟩ (fun hHeld => ?_)
                 clear hK K
                 refine norm_ (a' := ?_) ?_ ?_
                 rotate_left
                 ·
                  show Act.put _ (some 14) _ = _
                  simp only [Act.put, List.setIfInBounds_toArray, List.set_cons_zero, List.set_cons_succ, i64_w, i32_w]
                  rfl
                 refine one_ (i := 9) (N := none) #[true, true, true, true, true, true, true, true, true, true] rfl rfl (one_of HT_.out (by kernel_rfl)) (by decide) (fun K hK => ?_)
                 have hs75 : w74.cell? ⟨gb653, 0, none⟩ = some (.int .i64 0) := (blk_cell BK653.out 0).trans rfl
                 have hfs75 := blk_frozen BK653.out 0
                 have hns75_0 := NB642_653.out
                 have hms75_0 := NB653_642.out
                 have hs76 : w74.cell? ⟨gb653, 1, none⟩ = some (.int .i64 0) := (blk_cell BK653.out 1).trans rfl
                 have hfs76 := blk_frozen BK653.out 1
                 have hns76_0 := NB642_653.out
                 have hms76_0 := NB653_642.out
                 refine skip_ (w1 := ?_) (by rfl) rfl ?_ ?_
                 rotate_left
                 ·
                  go_simp
                  rfl
                 refine hK.out _ _ ⟨((cell_far (p := ⟨gb653, _, none⟩) NB642_653.out _).trans (((cell_far (p := ⟨gb653, _, none⟩) NB642_653.out _).trans (hHeld.1)))), ((cell_far (p := ⟨gb653, _, none⟩) NB642_653.out _).trans (((cell_far (p := ⟨gb653, _, none⟩) NB642_653.out _).trans (hHeld.2.1)))), ((cell_far (p := ⟨gb653, _, none⟩) NB642_653.out _).trans (((cell_far (p := ⟨gb653, _, none⟩) NB642_653.out _).trans (hHeld.2.2.1)))), ((cell_far (p := ⟨gb653, _, none⟩) (by first | exact Nat.ne_of_lt (Nat.lt_of_lt_of_le (by have := World.block_lt_of_cell? _ _ hw651_0; first | rwa [add_block] at this | exact this) GW653.out) | (rw [add_block]; exact Nat.ne_of_lt (Nat.lt_of_lt_of_le (by have := World.block_lt_of_cell? _ _ hw651_0; first | rwa [add_block] at this | exact this) GW653.out)) | (show (Addr.add _ _).block ≠ _; rw [add_block]; exact Nat.ne_of_lt (Nat.lt_of_lt_of_le (by have := World.block_lt_of_cell? _ _ hw651_0; first | rwa [add_block] at this | exact this) GW653.out)) | (dsimp only; exact Nat.ne_of_lt (Nat.lt_of_lt_of_le (by have := World.block_lt_of_cell? _ _ hw651_0; first | rwa [add_block] at this | exact this) GW653.out))) _).trans (((cell_far (p := ⟨gb653, _, none⟩) (by first | exact Nat.ne_of_lt (Nat.lt_of_lt_of_le (by have := World.block_lt_of_cell? _ _ hw651_0; first | rwa [add_block] at this | exact this) GW653.out) | (rw [add_block]; exact Nat.ne_of_lt (Nat.lt_of_lt_of_le (by have := World.block_lt_of_cell? _ _ hw651_0; first | rwa [add_block] at this | exact this) GW653.out)) | (show (Addr.add _ _).block ≠ _; rw [add_block]; exact Nat.ne_of_lt (Nat.lt_of_lt_of_le (by have := World.block_lt_of_cell? _ _ hw651_0; first | rwa [add_block] at this | exact this) GW653.out)) | (dsimp only; exact Nat.ne_of_lt (Nat.lt_of_lt_of_le (by have := World.block_lt_of_cell? _ _ hw651_0; first | rwa [add_block] at this | exact this) GW653.out))) _).trans (hHeld.2.2.2.1)))), ((cell_far (p := ⟨gb653, _, none⟩) (by first | exact Nat.ne_of_lt (Nat.lt_of_lt_of_le (by have := World.block_lt_of_cell? _ _ hw652_0; first | rwa [add_block] at this | exact this) GW653.out) | (rw [add_block]; exact Nat.ne_of_lt (Nat.lt_of_lt_of_le (by have := World.block_lt_of_cell? _ _ hw652_0; first | rwa [add_block] at this | exact this) GW653.out)) | (show (Addr.add _ _).block ≠ _; rw [add_block]; exact Nat.ne_of_lt (Nat.lt_of_lt_of_le (by have := World.block_lt_of_cell? _ _ hw652_0; first | rwa [add_block] at this | exact this) GW653.out)) | (dsimp only; exact Nat.ne_of_lt (Nat.lt_of_lt_of_le (by have := World.block_lt_of_cell? _ _ hw652_0; first | rwa [add_block] at this | exact this) GW653.out))) _).trans (((cell_far (p := ⟨gb653, _, none⟩) (by first | exact Nat.ne_of_lt (Nat.lt_of_lt_of_le (by have := World.block_lt_of_cell? _ _ hw652_0; first | rwa [add_block] at this | exact this) GW653.out) | (rw [add_block]; exact Nat.ne_of_lt (Nat.lt_of_lt_of_le (by have := World.block_lt_of_cell? _ _ hw652_0; first | rwa [add_block] at this | exact this) GW653.out)) | (show (Addr.add _ _).block ≠ _; rw [add_block]; exact Nat.ne_of_lt (Nat.lt_of_lt_of_le (by have := World.block_lt_of_cell? _ _ hw652_0; first | rwa [add_block] at this | exact this) GW653.out)) | (dsimp only; exact Nat.ne_of_lt (Nat.lt_of_lt_of_le (by have := World.block_lt_of_cell? _ _ hw652_0; first | rwa [add_block] at this | exact this) GW653.out))) _).trans (hHeld.2.2.2.2.1)))), ((cell_far (p := ⟨gb653, _, none⟩) (by first | exact Nat.ne_of_lt (Nat.lt_of_lt_of_le (by have := World.block_lt_of_cell? _ _ hw652_1; first | rwa [add_block] at this | exact this) GW653.out) | (rw [add_block]; exact Nat.ne_of_lt (Nat.lt_of_lt_of_le (by have := World.block_lt_of_cell? _ _ hw652_1; first | rwa [add_block] at this | exact this) GW653.out)) | (show (Addr.add _ _).block ≠ _; rw [add_block]; exact Nat.ne_of_lt (Nat.lt_of_lt_of_le (by have := World.block_lt_of_cell? _ _ hw652_1; first | rwa [add_block] at this | exact this) GW653.out)) | (dsimp only; exact Nat.ne_of_lt (Nat.lt_of_lt_of_le (by have := World.block_lt_of_cell? _ _ hw652_1; first | rwa [add_block] at this | exact this) GW653.out))) _).trans (((cell_far (p := ⟨gb653, _, none⟩) (by first | exact Nat.ne_of_lt (Nat.lt_of_lt_of_le (by have := World.block_lt_of_cell? _ _ hw652_1; first | rwa [add_block] at this | exact this) GW653.out) | (rw [add_block]; exact Nat.ne_of_lt (Nat.lt_of_lt_of_le (by have := World.block_lt_of_cell? _ _ hw652_1; first | rwa [add_block] at this | exact this) GW653.out)) | (show (Addr.add _ _).block ≠ _; rw [add_block]; exact Nat.ne_of_lt (Nat.lt_of_lt_of_le (by have := World.block_lt_of_cell? _ _ hw652_1; first | rwa [add_block] at this | exact this) GW653.out)) | (dsimp only; exact Nat.ne_of_lt (Nat.lt_of_lt_of_le (by have := World.block_lt_of_cell? _ _ hw652_1; first | rwa [add_block] at this | exact this) GW653.out))) _).trans (hHeld.2.2.2.2.2))))⟩ (fun hHeld => ?_)
                 clear hK K
                 refine done_ (done_of HT_.out (by kernel_rfl)) ?_
                 have hnb77 := NB653_642.out
                 have hnc77 := NB642_653.out
                 have hcz78_0 := blkc BK653.out 0 (.int .i64 0) rfl
                 have hcz78_1 := blkc BK653.out 1 (.int .i64 0) rfl
                 have hfz78_0 := blk_frozen BK653.out 0
                 have hfz78_1 := blk_frozen BK653.out 1
                 try go_wp2
                 go_ret
                 exact ⟨ezz, bel⟩
              ·
               rw [if_neg c30] at H
               exact absurd H (by simp)
             ·
              rw [if_neg c29] at H
              exact absurd H (by simp)
            ·
             rw [if_neg c28] at H
             exact absurd H (by simp)
           ·
            rw [if_neg c27] at H
            exact absurd H (by simp)
       ·
        rw [if_neg c17] at H
        have c17b0 : decide (x13_1 < (l4.length : Int)) = false := decide_eq_false c17
        try (have c17b0hl11_1 := c17b0; simp only [hl11_1] at c17b0hl11_1)
        clear c17
        obtain rfl := Option.some.inj H
        go_wp2
        go_ret
        exact ⟨ezz, bel⟩
    ·
     rw [if_neg c9] at H
     exact absurd H (by simp)
   ·
    rw [if_neg c8] at H
    exact absurd H (by simp)
  ·
   rw [if_neg c7] at H
   exact absurd H (by simp)
 ·
  rw [if_neg c6] at H
  exact absurd H (by simp)

/-! ### dropperref05_isFeed: function 79 -/
def dropperref05_isFeed.l0 : Nat → Int → Int → List Int → Int → Int → List (S69) → List (S71) → Option (Bool)
 | 0, _, _, _, _, _, _, _ => none
 | k + 1, x1, x2, x3, x9, x659000, x659001, x659002 => if x9 < (x659002.length : Int) then (if 0 ≤ x9 then ((dropperref05_leads.f k x659000 x659001 x659002 x1 ((rd_T71 x659002 x9).f0) x2 x3).bind fun t660 => (if t660 = true then (some true) else (dropperref05_isFeed.l0 k x1 x2 x3 (wrap64 (x9 + 1)) x659000 x659001 x659002))) else (none)) else (some false)
def dropperref05_isFeed.f (k : Nat) (a0_0 : Int) (l0_1 : List (S69)) (l0_2 : List (S71)) (a1 : Int) (a2 : Int) (l3 : List Int) : Option (Bool) := dropperref05_isFeed.l0 k a1 a2 l3 0 a0_0 l0_1 l0_2
theorem dropperref05_isFeed.mono_l : ∀ k, (∀ y0 y1 y2 y3 y4 y5 y6, LeO (dropperref05_isFeed.l0 k y0 y1 y2 y3 y4 y5 y6) (dropperref05_isFeed.l0 (k + 1) y0 y1 y2 y3 y4 y5 y6))
 | 0 => fun _ _ _ _ _ _ _ r h => by simp [dropperref05_isFeed.l0] at h
 | k + 1 => by
  have ih0 := dropperref05_isFeed.mono_l k
  ·
   intro y0 y1 y2 y3 y4 y5 y6
   unfold dropperref05_isFeed.l0
   repeat' first
   | (with_reducible exact ih0 _ _ _ _ _ _ _)
   | (with_reducible exact dropperref05_leads.mono _ _ _ _ _ _ _ _)
   | (with_reducible exact LeO.refl _)
   | (with_reducible exact LeO.none _)
   | (with_reducible refine LeO.ite ?_ ?_)
   | (with_reducible refine LeO.bind ?_ (fun _ => ?_))
   | exact ih0 _ _ _ _ _ _ _
   | exact dropperref05_leads.mono _ _ _ _ _ _ _ _
   | exact LeO.none _
   | refine LeO.ite ?_ ?_
   | refine LeO.bind ?_ (fun _ => ?_)
theorem dropperref05_isFeed.mono : ∀ a0 a1 a2 a3 a4 a5 k, LeO (dropperref05_isFeed.f k a0 a1 a2 a3 a4 a5) (dropperref05_isFeed.f (k + 1) a0 a1 a2 a3 a4 a5) := by
 intro a0 a1 a2 a3 a4 a5 k
 have ih0 := dropperref05_isFeed.mono_l k
 unfold dropperref05_isFeed.f
 repeat' first
   | (with_reducible exact ih0 _ _ _ _ _ _ _)
   | (with_reducible exact dropperref05_leads.mono _ _ _ _ _ _ _ _)
   | (with_reducible exact LeO.refl _)
   | (with_reducible exact LeO.none _)
   | (with_reducible refine LeO.ite ?_ ?_)
   | (with_reducible refine LeO.bind ?_ (fun _ => ?_))
   | exact ih0 _ _ _ _ _ _ _
   | exact dropperref05_leads.mono _ _ _ _ _ _ _ _
   | exact LeO.none _
   | refine LeO.ite ?_ ?_
   | refine LeO.bind ?_ (fun _ => ?_)
def dropperref05_isFeed.T4 : Bool × List (List Nat × List Nat) := (true, [([], []), ([], []), ([], []), ([2], [2]), ([], []), ([3, 4], [3, 4]), ([5], [5]), ([6], [6]), ([], []), ([], []), ([0, 1, 7, 8, 9], [0, 1, 7, 8, 9])])
def dropperref05_isFeed.B4 : List Nat := [0, 0, 0, 4, 0, 28, 60, 124, 0, 0, 1023]
theorem dropperref05_isFeed.tab4 : rtab .any (opsOf Tryd.f79 4) = dropperref05_isFeed.T4 := by kernel_rfl
theorem dropperref05_isFeed.bits4 : waitsOk dropperref05_isFeed.T4.2 dropperref05_isFeed.B4 = true := by kernel_rfl
set_option maxHeartbeats 8000000 in
set_option maxRecDepth 100000 in
theorem dropperref05_isFeed.calls (k : Nat) (a0_0 : Int) (A0_1 : Option Addr) (c0_1 : Nat) (l0_1 : List (S69)) (A0_2 : Option Addr) (c0_2 : Nat) (l0_2 : List (S71)) (a1 : Int) (a2 : Int) (A3 : Option Addr) (c3 : Nat) (l3 : List Int) (r : Bool) (w : World) (hr0_1 : Kd.C k69 w A0_1 l0_1.length l0_1) (hc0_1 : l0_1.length ≤ c0_1) (hr0_2 : Kd.C k71 w A0_2 l0_2.length l0_2) (hc0_2 : l0_2.length ≤ c0_2) (hr3 : Kd.C (Kd.int .i64) w A3 l3.length l3) (hc3 : l3.length ≤ c3) (h : dropperref05_isFeed.f k a0_0 l0_1 l0_2 a1 a2 l3 = some r) :
  Calls Tryd.prog 79 #[.agg #[.int .i64 a0_0, .slice A0_1 l0_1.length c0_1, .slice A0_2 l0_2.length c0_2], .int .i64 a1, .int .i64 a2, .slice A3 l3.length c3] w fun e w' => e = .returned (.bool r) ∧ Below w.heap.size w w' := by
 have hu25 := Tryd.underlying25
 have HR0_1 := Aside0.mk hr0_1
 have HC0_1 := Aside0.mk hc0_1
 clear hr0_1 hc0_1
 have HR0_2 := Aside0.mk hr0_2
 have HC0_2 := Aside0.mk hc0_2
 clear hr0_2 hc0_2
 have HR3 := Aside0.mk hr3
 have HC3 := Aside0.mk hc3
 clear hr3 hc3
 have HB := Aside0.mk (Below.refl w.heap.size w)
 have H : (dropperref05_isFeed.l0 k a1 a2 l3 0 a0_0 l0_1 l0_2) = some r := h
 clear h
 have H' := Aside0.mk H
 clear H
 go_enter Tryd.func79, Tryd.ntmps79
 go_wp2_with (first | ((with_reducible refine gate_dst (N := 4) rfl ?_); refine box_event ?hg (N := 4) ?hd (cs := #[.int .i64 a0_0, .slice A0_1 l0_1.length c0_1, .slice A0_2 l0_2.length c0_2]) (t := 25) ?hr ?_; (case hd => rfl); (case hg => rfl); (case hr => first | (go_simp; done) | (go_simp; rfl)); intro gb658 hg w5 hbox hb; have BK658 := Aside0.mk (hbox); have GW658 := bsz (w := w) hg; have GE658 := GW658; replace HB := Aside0.mk (below_step bel hb); clear hb hbox hg))
 go_loopg [9] k (fun kq v9 w' => ∃ (x9_1 : Int), v9 = .int .i64 x9_1 ∧ Aside0 (dropperref05_isFeed.l0 kq a1 a2 l3 x9_1 a0_0 l0_1 l0_2 = some r) ∧ Aside0 (kq ≤ k) ∧ Aside0 (w'.heap[gb658]? = some (.cells #[.int .i64 a0_0, (.slice A0_1 l0_1.length c0_1), (.slice A0_2 l0_2.length c0_2)] 25 (0, 0))) ∧ Aside0 (Below w.heap.size w w'))
 case atStart => exact ⟨(0), rsz, H', ⟨Nat.le_refl _⟩, ⟨blkz⟩, ⟨bel⟩⟩
 case round =>
  clear H'
  try clear p2
  try clear c3
  obtain ⟨x9_1, rfl, HA, HK1, BK658, HB⟩ := hrel
  cases gk with
  | zero => exact absurd HA.out (by simp [dropperref05_isFeed.l0])
  | succ k1 =>
   have H := HA.out
   clear HA
   simp only [dropperref05_isFeed.l0] at H
   by_cases c6 : x9_1 < (l0_2.length : Int)
   ·
    rw [if_pos c6] at H
    have c6b0 : decide (x9_1 < (l0_2.length : Int)) = true := decide_eq_true c6
    clear c6
    by_cases c7 : 0 ≤ x9_1
    ·
     rw [if_pos c7] at H
     have c7b0 : decide (0 ≤ x9_1) = true := decide_eq_true c7
     clear c7
     replace H := Option.bind_eq_some_iff.mp H
     obtain ⟨t660, A80, H⟩ := H
     replace H : (if t660 = true then (some true) else (dropperref05_isFeed.l0 k1 a1 a2 l3 (wrap64 (x9_1 + 1)) a0_0 l0_1 l0_2)) = some r := H
     have A8 := Aside0.mk A80
     clear A80
     by_cases c9 : t660 = true
     ·
      subst c9
      have H1 : (some true) = some r := by rw [if_pos rfl] at H; exact H
      clear H
      have H := H1
      clear H1
      obtain rfl := Option.some.inj H
      have hcz10_0 := blkc BK658.out 0 (.int .i64 a0_0) rfl
      have hcz10_1 := blkc BK658.out 1 (.slice A0_1 l0_1.length c0_1) rfl
      have hcz10_2 := blkc BK658.out 2 (.slice A0_2 l0_2.length c0_2) rfl
      have hfz10_0 := blk_frozen BK658.out 0
      have hfz10_1 := blk_frozen BK658.out 1
      have hfz10_2 := blk_frozen BK658.out 2
      try go_wp2
      have n0_ := Aside0.mk (blk_drew BK658.out)
      have n1_ := Aside0.mk (below_drew1 HB.out)
      clear BK658
      clear HB
      have BK658 := n0_
      have HB := n1_
      clear n0_ n1_
      have p659 : 0 ≤ (x9_1 : Int) := of_decide_eq_true asz
      have q659 : x9_1 < (l0_2.length : Int) := of_decide_eq_true asz
      obtain ⟨ad659, e659, hx659_0, hx659_1⟩ := at_T71 HR0_2.out x9_1 p659 q659
      have hw659_1 := hx659_1
      have hw659_0 := hx659_0
      cases e659
      replace hx659_0 := (HB.out.cell (World.block_lt_of_cell? w _ hx659_0)).trans hx659_0
      replace hx659_1 := (HB.out.cell (World.block_lt_of_cell? w _ hx659_1)).trans hx659_1
      replace p659 := eq_true p659
      replace q659 := eq_true q659
      refine start_ (n := 11) (S := fun w' => w'.cell? ⟨gb658, 0, none⟩ = some (.int .i64 a0_0) ∧ w'.cell? ⟨gb658, 1, none⟩ = some (.slice A0_1 l0_1.length c0_1) ∧ w'.cell? ⟨gb658, 2, none⟩ = some (.slice (some ad659) l0_2.length c0_2) ∧ w'.cell? (ad659.add ((x9_1).toNat * 2)) = some (.int .i64 ((rd_T71 l0_2 x9_1).f0)) ∧ w'.cell? ⟨(ad659.add ((x9_1).toNat * 2)).block, (ad659.add ((x9_1).toNat * 2)).off + 1, none⟩ = some (.int .i64 ((rd_T71 l0_2 x9_1).f1))) (ds := []) #[false, false, false, false, false, false, false, false, false, false, false] (by kernel_rfl) rfl rfl ⟨(blk_cell BK658.out 0).trans rfl, (blk_cell BK658.out 1).trans rfl, (blk_cell BK658.out 2).trans rfl, ((HB.out.cell (World.block_lt_of_cell? w _ hw659_0)).trans hw659_0), ((HB.out.cell (World.block_lt_of_cell? w _ hw659_1)).trans hw659_1)⟩ (fun hHeld => ?_); refine with_tabW dropperref05_isFeed.tab4 dropperref05_isFeed.bits4 (fun HT_ HW_ => ?_)
      generalize wr.drew = w11 at BK658 HB hx659_0 hx659_1 hHeld ⊢
      refine pst (i := 1) (N := some 18) (bz 11 2) (any_of HT_.out (by kernel_rfl)) ?_
      refine pst (i := 2) (N := some 19) (bz 11 6) (any_of HT_.out (by kernel_rfl)) ?_
      refine pst (i := 4) (N := some 21) (bz 11 22) (any_of HT_.out (by kernel_rfl)) ?_
      refine pst (i := 8) (N := some 25) (bz 11 278) (any_of HT_.out (by kernel_rfl)) ?_
      refine pst (i := 9) (N := some 26) (bz 11 790) (any_of HT_.out (by kernel_rfl)) ?_
      refine tst5 (i := 0) (N := some 17) (bz 11 791) (take_ofW HT_.out HW_.out (by kernel_rfl)) hHeld ?_
      refine tst5 (i := 3) (N := some 20) (bz 11 799) (take_ofW HT_.out HW_.out (by kernel_rfl)) hHeld ?_
      refine pst (i := 5) (N := some 22) (bz 11 831) (any_of HT_.out (by kernel_rfl)) ?_
      refine pst (i := 6) (N := some 23) (bz 11 895) (any_of HT_.out (by kernel_rfl)) ?_
      refine tst5 (i := 7) (N := some 24) (bz 11 1023) (take_ofW HT_.out HW_.out (by kernel_rfl)) hHeld ?_
      refine one_ (i := 10) (N := some 27) #[true, true, true, true, true, true, true, true, true, true, true] rfl rfl (one_of HT_.out (by kernel_rfl)) (by decide) (fun K hK => ?_)
      refine goes_ Tryd.func101 (by kernel_rfl) rfl #[.agg #[.int .i64 a0_0, .slice A0_1 l0_1.length c0_1, .slice (some ad659) l0_2.length c0_2], .int .i64 a1, .int .i64 ((rd_T71 l0_2 x9_1).f0), .int .i64 a2, .slice A3 l3.length c3] (by rfl) rfl rfl mapz ?_
      with_reducible refine (dropperref05_leads.calls k1 a0_0 _ _ l0_1 _ _ l0_2 a1 ((rd_T71 l0_2 x9_1).f0) a2 _ _ l3 true _ ?side1 ?side2 ?side3 ?side4 ?side5 ?side6 A8.out).mono ?_
      (case side1 => exact cbz HR0_1)
      (case side2 => exact HC0_1.out)
      (case side3 => exact cbz HR0_2)
      (case side4 => exact HC0_2.out)
      (case side5 => exact cbz HR3)
      (case side6 => exact HC3.out)
      rintro e w12 ⟨rfl, hb⟩
      refine ⟨_, rfl, ?_⟩
      have n0_ := Aside0.mk (blk_below (g := gb658) blkz hb)
      have n1_ := Aside0.mk (below_step bel hb)
      clear BK658
      clear HB
      have BK658 := n0_
      have HB := n1_
      clear n0_ n1_
      (try clear hb)
      (try clear hb2)
      (try clear hk)
      (try clear hi)
      refine hK.out _ _ ⟨(blk_cell BK658.out 0).trans rfl, (blk_cell BK658.out 1).trans rfl, (blk_cell BK658.out 2).trans rfl, ((HB.out.cell (World.block_lt_of_cell? w _ hw659_0)).trans hw659_0), ((HB.out.cell (World.block_lt_of_cell? w _ hw659_1)).trans hw659_1)⟩ (fun hHeld => ?_)
      clear hK K
      refine norm_ (a' := ?_) ?_ ?_
      rotate_left
      ·
       show Act.put _ (some 27) _ = _
       simp only [Act.put, List.setIfInBounds_toArray, List.set_cons_zero, List.set_cons_succ, i64_w, i32_w]
       rfl
      refine done_ (done_of HT_.out (by kernel_rfl)) ?_
      try go_wp2
      go_ret
      exact ⟨ezz, bel⟩
     ·
      replace c9 := Bool.eq_false_iff.mpr c9
      subst c9
      have H1 : (dropperref05_isFeed.l0 k1 a1 a2 l3 (wrap64 (x9_1 + 1)) a0_0 l0_1 l0_2) = some r := by rw [if_neg (show ¬ (false = true) by decide)] at H; exact H
      clear H
      have H := H1
      clear H1
      have H' := Aside0.mk H
      clear H
      have hcz13_0 := blkc BK658.out 0 (.int .i64 a0_0) rfl
      have hcz13_1 := blkc BK658.out 1 (.slice A0_1 l0_1.length c0_1) rfl
      have hcz13_2 := blkc BK658.out 2 (.slice A0_2 l0_2.length c0_2) rfl
      have hfz13_0 := blk_frozen BK658.out 0
      have hfz13_1 := blk_frozen BK658.out 1
      have hfz13_2 := blk_frozen BK658.out 2
      try go_wp2
      have n0_ := Aside0.mk (blk_drew BK658.out)
      have n1_ := Aside0.mk (below_drew1 HB.out)
      clear BK658
      clear HB
      have BK658 := n0_
      have HB := n1_
      clear n0_ n1_
      have p659 : 0 ≤ (x9_1 : Int) := of_decide_eq_true asz
      have q659 : x9_1 < (l0_2.length : Int) := of_decide_eq_true asz
      obtain ⟨ad659, e659, hx659_0, hx659_1⟩ := at_T71 HR0_2.out x9_1 p659 q659
      have hw659_1 := hx659_1
      have hw659_0 := hx659_0
      cases e659
      replace hx659_0 := (HB.out.cell (World.block_lt_of_cell? w _ hx659_0)).trans hx659_0
      replace hx659_1 := (HB.out.cell (World.block_lt_of_cell? w _ hx659_1)).trans hx659_1
      replace p659 := eq_true p659
      replace q659 := eq_true q659
      refine start_ (n := 11) (S := fun w' => w'.cell? ⟨gb658, 0, none⟩ = some (.int .i64 a0_0) ∧ w'.cell? ⟨gb658, 1, none⟩ = some (.slice A0_1 l0_1.length c0_1) ∧ w'.cell? ⟨gb658, 2, none⟩ = some (.slice (some ad659) l0_2.length c0_2) ∧ w'.cell? (ad659.add ((x9_1).toNat * 2)) = some (.int .i64 ((rd_T71 l0_2 x9_1).f0)) ∧ w'.cell? ⟨(ad659.add ((x9_1).toNat * 2)).block, (ad659.add ((x9_1).toNat * 2)).off + 1, none⟩ = some (.int .i64 ((rd_T71 l0_2 x9_1).f1))) (ds := []) #[false, false, false, false, false, false, false, false, false, false, false] (by kernel_rfl) rfl rfl ⟨(blk_cell BK658.out 0).trans rfl, (blk_cell BK658.out 1).trans rfl, (blk_cell BK658.out 2).trans rfl, ((HB.out.cell (World.block_lt_of_cell? w _ hw659_0)).trans hw659_0), ((HB.out.cell (World.block_lt_of_cell? w _ hw659_1)).trans hw659_1)⟩ (fun hHeld => ?_); refine with_tabW dropperref05_isFeed.tab4 dropperref05_isFeed.bits4 (fun HT_ HW_ => ?_)
      generalize wr.drew = w14 at BK658 HB hx659_0 hx659_1 hHeld ⊢
      refine pst (i := 1) (N := some 18) (bz 11 2) (any_of HT_.out (by kernel_rfl)) ?_
      refine pst (i := 2) (N := some 19) (bz 11 6) (any_of HT_.out (by kernel_rfl)) ?_
      refine pst (i := 4) (N := some 21) (bz 11 22) (any_of HT_.out (by kernel_rfl)) ?_
      refine pst (i := 8) (N := some 25) (bz 11 278) (any_of HT_.out (by kernel_rfl)) ?_
      refine pst (i := 9) (N := some 26) (bz 11 790) (any_of HT_.out (by kernel_rfl)) ?_
      refine tst5 (i := 0) (N := some 17) (bz 11 791) (take_ofW HT_.out HW_.out (by kernel_rfl)) hHeld ?_
      refine tst5 (i := 3) (N := some 20) (bz 11 799) (take_ofW HT_.out HW_.out (by kernel_rfl)) hHeld ?_
      refine pst (i := 5) (N := some 22) (bz 11 831) (any_of HT_.out (by kernel_rfl)) ?_
      refine pst (i := 6) (N := some 23) (bz 11 895) (any_of HT_.out (by kernel_rfl)) ?_
      refine tst5 (i := 7) (N := some 24) (bz 11 1023) (take_ofW HT_.out HW_.out (by kernel_rfl)) hHeld ?_
      refine one_ (i := 10) (N := some 27) #[true, true, true, true, true, true, true, true, true, true, true] rfl rfl (one_of HT_.out (by kernel_rfl)) (by decide) (fun K hK => ?_)
      refine goes_ Tryd.func101 (by kernel_rfl) rfl #[.agg #[.int .i64 a0_0, .slice A0_1 l0_1.length c0_1, .slice (some ad659) l0_2.length c0_2], .int .i64 a1, .int .i64 ((rd_T71 l0_2 x9_1).f0), .int .i64 a2, .slice A3 l3.length c3] (by rfl) rfl rfl mapz ?_
      with_reducible refine (dropperref05_leads.calls k1 a0_0 _ _ l0_1 _ _ l0_2 a1 ((rd_T71 l0_2 x9_1).f0) a2 _ _ l3 false _ ?side1 ?side2 ?side3 ?side4 ?side5 ?side6 A8.out).mono ?_
      (case side1 => exact cbz HR0_1)
      (case side2 => exact HC0_1.out)
      (case side3 => exact cbz HR0_2)
      (case side4 => exact HC0_2.out)
      (case side5 => exact cbz HR3)
      (case side6 => exact HC3.out)
      rintro e w15 ⟨rfl, hb⟩
      refine ⟨_, rfl, ?_⟩
      have n0_ := Aside0.mk (blk_below (g := gb658) blkz hb)
      have n1_ := Aside0.mk (below_step bel hb)
      clear BK658
      clear HB
      have BK658 := n0_
      have HB := n1_
      clear n0_ n1_
      (try clear hb)
      (try clear hb2)
      (try clear hk)
      (try clear hi)
      refine hK.out _ _ ⟨(blk_cell BK658.out 0).trans rfl, (blk_cell BK658.out 1).trans rfl, (blk_cell BK658.out 2).trans rfl, ((HB.out.cell (World.block_lt_of_cell? w _ hw659_0)).trans hw659_0), ((HB.out.cell (World.block_lt_of_cell? w _ hw659_1)).trans hw659_1)⟩ (fun hHeld => ?_)
      clear hK K
      refine norm_ (a' := ?_) ?_ ?_
      rotate_left
      ·
       show Act.put _ (some 27) _ = _
       simp only [Act.put, List.setIfInBounds_toArray, List.set_cons_zero, List.set_cons_succ, i64_w, i32_w]
       rfl
      refine done_ (done_of HT_.out (by kernel_rfl)) ?_
      try go_wp2
      go_roundg k1
      case measure => have := HK1.out; omega
      case rel => exact ⟨(wrap64 (x9_1 + 1)), rsz, H', ⟨by have := HK1.out; omega⟩, ⟨blkz⟩, ⟨bel⟩⟩
    ·
     rw [if_neg c7] at H
     exact absurd H (by simp)
   ·
    rw [if_neg c6] at H
    have c6b0 : decide (x9_1 < (l0_2.length : Int)) = false := decide_eq_false c6
    clear c6
    obtain rfl := Option.some.inj H
    have hcz16_0 := blkc BK658.out 0 (.int .i64 a0_0) rfl
    have hcz16_1 := blkc BK658.out 1 (.slice A0_1 l0_1.length c0_1) rfl
    have hcz16_2 := blkc BK658.out 2 (.slice A0_2 l0_2.length c0_2) rfl
    have hfz16_0 := blk_frozen BK658.out 0
    have hfz16_1 := blk_frozen BK658.out 1
    have hfz16_2 := blk_frozen BK658.out 2
    go_wp2
    go_ret
    exact ⟨ezz, bel⟩

/-! ### dropperref05_AreFeeds: function 40 -/
mutual
def dropperref05_AreFeeds.l0 : Nat → Int → Int → List (List Int) → List Bool → Int → Int → List (S69) → List (S71) → Option (Bool × Int)
 | 0, _, _, _, _, _, _, _, _ => none
 | k + 1, x1, x2, x3, x11, x12, x662000, x662001, x662002 => if x12 < (x3.length : Int) then (if 0 ≤ x12 then ((dropperref05_isFeed.f k x662000 x662001 x662002 x1 x2 (rd_L4 x3 x12)).bind fun t667 => (if t667 = true then (dropperref05_AreFeeds.l1 k x1 x2 x3 x11 x12 0 x662000 x662001 x662002) else (some (false, 0)))) else (none)) else (some (true, 0))
def dropperref05_AreFeeds.l1 : Nat → Int → Int → List (List Int) → List Bool → Int → Int → Int → List (S69) → List (S71) → Option (Bool × Int)
 | 0, _, _, _, _, _, _, _, _, _ => none
 | k + 1, x1, x2, x3, x11, x12, x13, x662000, x662001, x662002 => if 0 ≤ x12 then (if x12 < (x3.length : Int) then (if x13 < ((rd_L4 x3 x12).length : Int) then (if 0 ≤ x13 then (if 0 ≤ (rd (rd_L4 x3 x12) x13) then (if (rd (rd_L4 x3 x12) x13) < (x11.length : Int) then (if rdOf false x11 (rd (rd_L4 x3 x12) x13) = true then (some (false, 0)) else (dropperref05_AreFeeds.l1 k x1 x2 x3 (x11.set ((rd (rd_L4 x3 x12) x13) : Int).toNat true) x12 (wrap64 (x13 + 1)) x662000 x662001 x662002)) else (none)) else (none)) else (none)) else (dropperref05_AreFeeds.l0 k x1 x2 x3 x11 (wrap64 (x12 + 1)) x662000 x662001 x662002)) else (none)) else (none)
end
def dropperref05_AreFeeds.f (k : Nat) (a0_0 : Int) (l0_1 : List (S69)) (l0_2 : List (S71)) (a1 : Int) (a2 : Int) (l3 : List (List Int)) : Option (Bool × Int) := (dropperref05_Why.f k a0_0 l0_1 l0_2 a1 a2).bind fun t662 => (if t662 = 0 then (if (l3.length : Int) > 20 then (some (false, 0)) else (if 0 ≤ (l0_1.length : Int) then (if ((l0_1.length : Int) : Int).toNat ≤ 281474976710656 then (dropperref05_AreFeeds.l0 k a1 a2 l3 (List.replicate ((l0_1.length : Int) : Int).toNat false) 0 a0_0 l0_1 l0_2) else (none)) else (none))) else (some (false, t662)))
theorem dropperref05_AreFeeds.mono_l : ∀ k, (∀ y0 y1 y2 y3 y4 y5 y6 y7, LeO (dropperref05_AreFeeds.l0 k y0 y1 y2 y3 y4 y5 y6 y7) (dropperref05_AreFeeds.l0 (k + 1) y0 y1 y2 y3 y4 y5 y6 y7)) ∧ (∀ y0 y1 y2 y3 y4 y5 y6 y7 y8, LeO (dropperref05_AreFeeds.l1 k y0 y1 y2 y3 y4 y5 y6 y7 y8) (dropperref05_AreFeeds.l1 (k + 1) y0 y1 y2 y3 y4 y5 y6 y7 y8))
 | 0 => ⟨fun _ _ _ _ _ _ _ _ r h => by simp [dropperref05_AreFeeds.l0] at h, fun _ _ _ _ _ _ _ _ _ r h => by simp [dropperref05_AreFeeds.l1] at h⟩
 | k + 1 => by
  obtain ⟨ih0, ih1⟩ := dropperref05_AreFeeds.mono_l k
  refine ⟨?_, ?_⟩
  ·
   intro y0 y1 y2 y3 y4 y5 y6 y7
   unfold dropperref05_AreFeeds.l0
   repeat' first
   | (with_reducible exact ih0 _ _ _ _ _ _ _ _)
   | (with_reducible exact ih1 _ _ _ _ _ _ _ _ _)
   | (with_reducible exact dropperref05_Why.mono _ _ _ _ _ _)
   | (with_reducible exact dropperref05_isFeed.mono _ _ _ _ _ _ _)
   | (with_reducible exact LeO.refl _)
   | (with_reducible exact LeO.none _)
   | (with_reducible refine LeO.ite ?_ ?_)
   | (with_reducible refine LeO.bind ?_ (fun _ => ?_))
   | exact ih0 _ _ _ _ _ _ _ _
   | exact ih1 _ _ _ _ _ _ _ _ _
   | exact dropperref05_Why.mono _ _ _ _ _ _
   | exact dropperref05_isFeed.mono _ _ _ _ _ _ _
   | exact LeO.none _
   | refine LeO.ite ?_ ?_
   | refine LeO.bind ?_ (fun _ => ?_)
  ·
   intro y0 y1 y2 y3 y4 y5 y6 y7 y8
   unfold dropperref05_AreFeeds.l1
   repeat' first
   | (with_reducible exact ih0 _ _ _ _ _ _ _ _)
   | (with_reducible exact ih1 _ _ _ _ _ _ _ _ _)
   | (with_reducible exact dropperref05_Why.mono _ _ _ _ _ _)
   | (with_reducible exact dropperref05_isFeed.mono _ _ _ _ _ _ _)
   | (with_reducible exact LeO.refl _)
   | (with_reducible exact LeO.none _)
   | (with_reducible refine LeO.ite ?_ ?_)
   | (with_reducible refine LeO.bind ?_ (fun _ => ?_))
   | exact ih0 _ _ _ _ _ _ _ _
   | exact ih1 _ _ _ _ _ _ _ _ _
   | exact dropperref05_Why.mono _ _ _ _ _ _
   | exact dropperref05_isFeed.mono _ _ _ _ _ _ _
   | exact LeO.none _
   | refine LeO.ite ?_ ?_
   | refine LeO.bind ?_ (fun _ => ?_)
theorem dropperref05_AreFeeds.mono : ∀ a0 a1 a2 a3 a4 a5 k, LeO (dropperref05_AreFeeds.f k a0 a1 a2 a3 a4 a5) (dropperref05_AreFeeds.f (k + 1) a0 a1 a2 a3 a4 a5) := by
 intro a0 a1 a2 a3 a4 a5 k
 obtain ⟨ih0, ih1⟩ := dropperref05_AreFeeds.mono_l k
 unfold dropperref05_AreFeeds.f
 repeat' first
   | (with_reducible exact ih0 _ _ _ _ _ _ _ _)
   | (with_reducible exact ih1 _ _ _ _ _ _ _ _ _)
   | (with_reducible exact dropperref05_Why.mono _ _ _ _ _ _)
   | (with_reducible exact dropperref05_isFeed.mono _ _ _ _ _ _ _)
   | (with_reducible exact LeO.refl _)
   | (with_reducible exact LeO.none _)
   | (with_reducible refine LeO.ite ?_ ?_)
   | (with_reducible refine LeO.bind ?_ (fun _ => ?_))
   | exact ih0 _ _ _ _ _ _ _ _
   | exact ih1 _ _ _ _ _ _ _ _ _
   | exact dropperref05_Why.mono _ _ _ _ _ _
   | exact dropperref05_isFeed.mono _ _ _ _ _ _ _
   | exact LeO.none _
   | refine LeO.ite ?_ ?_
   | refine LeO.bind ?_ (fun _ => ?_)
def dropperref05_AreFeeds.T10 : Bool × List (List Nat × List Nat) := (true, [([], []), ([], []), ([], []), ([], []), ([], []), ([3, 4], [3, 4]), ([5], [5]), ([0, 1, 2, 6], [0, 1, 2, 6]), ([7], [7])])
def dropperref05_AreFeeds.B10 : List Nat := [0, 0, 0, 0, 0, 24, 56, 127, 255]
theorem dropperref05_AreFeeds.tab10 : rtab .any (opsOf Tryd.f40 10) = dropperref05_AreFeeds.T10 := by kernel_rfl
theorem dropperref05_AreFeeds.bits10 : waitsOk dropperref05_AreFeeds.T10.2 dropperref05_AreFeeds.B10 = true := by kernel_rfl
set_option maxHeartbeats 8000000 in
set_option maxRecDepth 100000 in
theorem dropperref05_AreFeeds.calls (k : Nat) (a0_0 : Int) (A0_1 : Option Addr) (c0_1 : Nat) (l0_1 : List (S69)) (A0_2 : Option Addr) (c0_2 : Nat) (l0_2 : List (S71)) (a1 : Int) (a2 : Int) (A3 : Option Addr) (c3 : Nat) (l3 : List (List Int)) (r1 : Bool) (r2 : Int) (w : World) (hr0_1 : Kd.C k69 w A0_1 l0_1.length l0_1) (hc0_1 : l0_1.length ≤ c0_1) (hr0_2 : Kd.C k71 w A0_2 l0_2.length l0_2) (hc0_2 : l0_2.length ≤ c0_2) (hr3 : Kd.C (Kd.slice 3 (Kd.int .i64)) w A3 l3.length l3) (hc3 : l3.length ≤ c3) (h : dropperref05_AreFeeds.f k a0_0 l0_1 l0_2 a1 a2 l3 = some (r1, r2)) :
  Calls Tryd.prog 40 #[.agg #[.int .i64 a0_0, .slice A0_1 l0_1.length c0_1, .slice A0_2 l0_2.length c0_2], .int .i64 a1, .int .i64 a2, .slice A3 l3.length c3] w fun e w' => e = .returned (.tuple #[.bool r1, .int .i64 r2]) ∧ Below w.heap.size w w' := by
 have hu25 := Tryd.underlying25
 have HR0_1 := Aside0.mk hr0_1
 have HC0_1 := Aside0.mk hc0_1
 clear hr0_1 hc0_1
 have HR0_2 := Aside0.mk hr0_2
 have HC0_2 := Aside0.mk hc0_2
 clear hr0_2 hc0_2
 have HR3 := Aside0.mk hr3
 have HC3 := Aside0.mk hc3
 clear hr3 hc3
 have HB := Aside0.mk (Below.refl w.heap.size w)
 have H : ((dropperref05_Why.f k a0_0 l0_1 l0_2 a1 a2).bind fun t662 => (if t662 = 0 then (if (l3.length : Int) > 20 then (some (false, 0)) else (if 0 ≤ (l0_1.length : Int) then (if ((l0_1.length : Int) : Int).toNat ≤ 281474976710656 then (dropperref05_AreFeeds.l0 k a1 a2 l3 (List.replicate ((l0_1.length : Int) : Int).toNat false) 0 a0_0 l0_1 l0_2) else (none)) else (none))) else (some (false, t662)))) = some (r1, r2) := h
 clear h
 replace H := Option.bind_eq_some_iff.mp H
 obtain ⟨t662, A50, H⟩ := H
 replace H : (if t662 = 0 then (if (l3.length : Int) > 20 then (some (false, 0)) else (if 0 ≤ (l0_1.length : Int) then (if ((l0_1.length : Int) : Int).toNat ≤ 281474976710656 then (dropperref05_AreFeeds.l0 k a1 a2 l3 (List.replicate ((l0_1.length : Int) : Int).toNat false) 0 a0_0 l0_1 l0_2) else (none)) else (none))) else (some (false, t662))) = some (r1, r2) := H
 have A5 := Aside0.mk A50
 clear A50
 by_cases c6 : t662 = 0
 ·
  rw [if_pos c6] at H
  have c6b0 : (t662 == 0) = true := beq_iff_eq.mpr c6
  have c6b1 : (t662 != 0) = false := bne_eq_false_iff_eq.mpr c6
  clear c6
  by_cases c7 : (l3.length : Int) > 20
  ·
   rw [if_pos c7] at H
   have c7b0 : decide (20 < (l3.length : Int)) = true := decide_eq_true c7
   have c7b1 : decide (20 < l3.length) = true := decide_eq_true (by omega)
   clear c7
   simp only [Option.some.injEq, Prod.mk.injEq] at H
   obtain ⟨rfl, rfl⟩ := H
   go_enter Tryd.func40, Tryd.ntmps40
   go_wp2_with (first | ((with_reducible refine gate_dst (N := 4) rfl ?_); refine box_event ?hg (N := 4) ?hd (cs := #[.int .i64 a0_0, .slice A0_1 l0_1.length c0_1, .slice A0_2 l0_2.length c0_2]) (t := 25) ?hr ?_; (case hd => rfl); (case hg => rfl); (case hr => first | (go_simp; done) | (go_simp; rfl)); intro gb661 hg w8 hbox hb; have BK661 := Aside0.mk (hbox); have GW661 := bsz (w := w) hg; have GE661 := GW661; replace HB := Aside0.mk (below_step bel hb); clear hb hbox hg; have hcz9_0 := blkc BK661.out 0 (.int .i64 a0_0) rfl; have hcz9_1 := blkc BK661.out 1 (.slice A0_1 l0_1.length c0_1) rfl; have hcz9_2 := blkc BK661.out 2 (.slice A0_2 l0_2.length c0_2) rfl) | ((with_reducible refine gate_callee (f := 25) rfl ?_); refine goesL_ (some 17) rfl rfl Tryd.func25 (by kernel_rfl) rfl #[.agg #[.int .i64 a0_0, .slice A0_1 l0_1.length c0_1, .slice A0_2 l0_2.length c0_2], .int .i64 a1, .int .i64 a2] rfl mapz ?_; (with_reducible refine (dropperref05_Why.calls k a0_0 _ _ l0_1 _ _ l0_2 a1 a2 t662 _ ?side1 ?side2 ?side3 ?side4 A5.out).mono ?_); (case side1 => exact cbz HR0_1); (case side2 => exact HC0_1.out); (case side3 => exact cbz HR0_2); (case side4 => exact HC0_2.out); rintro e w10 ⟨rfl, hb⟩; refine ⟨_, rfl, ?_⟩; replace BK661 := Aside0.mk (blk_below (g := gb661) blkz hb); replace HB := Aside0.mk (below_step bel hb); (try clear hb); (try clear hb2); (try clear hk); (try clear hi)))
   go_ret2
   exact ⟨ezz, bel⟩
  ·
   rw [if_neg c7] at H
   have c7b0 : decide (20 < (l3.length : Int)) = false := decide_eq_false c7
   have c7b1 : decide (20 < l3.length) = false := decide_eq_false (by omega)
   clear c7
   by_cases c11 : 0 ≤ (l0_1.length : Int)
   ·
    rw [if_pos c11] at H
    have c11b0 := eq_true c11
    have c11b1 : decide (0 ≤ (l0_1.length : Int)) = true := decide_eq_true c11
    clear c11
    by_cases c12 : ((l0_1.length : Int) : Int).toNat ≤ 281474976710656
    ·
     rw [if_pos c12] at H
     have c12b0 := eq_true c12
     have c12b1 : decide (((l0_1.length : Int) : Int).toNat ≤ 281474976710656) = true := decide_eq_true c12
     clear c12
     obtain ⟨y663, hy663⟩ : ∃ y_ : List Bool, y_ = (List.replicate ((l0_1.length : Int) : Int).toNat false) := ⟨_, rfl⟩
     replace H : (dropperref05_AreFeeds.l0 k a1 a2 l3 y663 0 a0_0 l0_1 l0_2) = some (r1, r2) := by first | (rw [hy663]; with_reducible exact H) | (have H2_ := (Option.bind_some _ _).symm.trans H; rw [hy663]; with_reducible exact H2_) | (have H2_ := (Option.bind_some _ _).symm.trans H; with_reducible exact H2_) | with_reducible exact H | (rw [hy663]; exact H) | exact H
     have Ny663 := Aside0.mk hy663
     clear hy663
     have H' := Aside0.mk H
     clear H
     go_enter Tryd.func40, Tryd.ntmps40
     go_wp2_with (first | ((with_reducible refine gate_dst (N := 4) rfl ?_); refine box_event ?hg (N := 4) ?hd (cs := #[.int .i64 a0_0, .slice A0_1 l0_1.length c0_1, .slice A0_2 l0_2.length c0_2]) (t := 25) ?hr ?_; (case hd => rfl); (case hg => rfl); (case hr => first | (go_simp; done) | (go_simp; rfl)); intro gb661 hg w13 hbox hb; have BK661 := Aside0.mk (hbox); have GW661 := bsz (w := w) hg; have GE661 := GW661; replace HB := Aside0.mk (below_step bel hb); clear hb hbox hg; have hcz14_0 := blkc BK661.out 0 (.int .i64 a0_0) rfl; have hcz14_1 := blkc BK661.out 1 (.slice A0_1 l0_1.length c0_1) rfl; have hcz14_2 := blkc BK661.out 2 (.slice A0_2 l0_2.length c0_2) rfl) | ((with_reducible refine gate_callee (f := 25) rfl ?_); refine goesL_ (some 17) rfl rfl Tryd.func25 (by kernel_rfl) rfl #[.agg #[.int .i64 a0_0, .slice A0_1 l0_1.length c0_1, .slice A0_2 l0_2.length c0_2], .int .i64 a1, .int .i64 a2] rfl mapz ?_; (with_reducible refine (dropperref05_Why.calls k a0_0 _ _ l0_1 _ _ l0_2 a1 a2 t662 _ ?side1 ?side2 ?side3 ?side4 A5.out).mono ?_); (case side1 => exact cbz HR0_1); (case side2 => exact HC0_1.out); (case side3 => exact cbz HR0_2); (case side4 => exact HC0_2.out); rintro e w15 ⟨rfl, hb⟩; refine ⟨_, rfl, ?_⟩; replace BK661 := Aside0.mk (blk_below (g := gb661) blkz hb); replace HB := Aside0.mk (below_step bel hb); (try clear hb); (try clear hb2); (try clear hk); (try clear hi); have hcz16_0 := blkc BK661.out 0 (.int .i64 a0_0) rfl; have hcz16_1 := blkc BK661.out 1 (.slice A0_1 l0_1.length c0_1) rfl; have hcz16_2 := blkc BK661.out 2 (.slice A0_2 l0_2.length c0_2) rfl) | ((with_reducible refine gate_dst (N := 27) rfl ?_); refine Kd.R_make Kd.bool _ 4 rfl (N := 27) rfl 92 _ _ rfl (l0_1.length : Int) rfl rfl Tryd.underlying92 (.bool false) 1 info4 rfl (by decide) (by omega) false (ok := fun _ => True) (okp := fun _ => True) rfl (fun _ hk => hk) trivial (of_decide_eq_true asz) (Nat.le_trans (Nat.mul_le_mul_right _ (of_decide_eq_true asz : (l0_1.length : Int).toNat ≤ 281474976710656)) (by omega)) (Below.refl _ _) (Nat.le_refl _) ?_; intro v664 w17 ho18 hb hg_ hnew_; clear hg_ hnew_; (first | rw [← Ny663.out] at ho18 | (simp only [Int.reduceToNat] at ho18; rw [← Ny663.out] at ho18)); have HO665 := Aside0.mk (Kd.R_lower ho18 (below_size bel)); replace BK661 := Aside0.mk (blk_below (g := gb661) blkz hb); replace HB := Aside0.mk (below_step bel hb); clear hb ho18))
     go_loopg [12] k (fun kq v12 w' => ∃ (x11_1 : List Bool) (x12_1 : Int), v12 = .int .i64 x12_1 ∧ Aside0 (dropperref05_AreFeeds.l0 kq a1 a2 l3 x11_1 x12_1 a0_0 l0_1 l0_2 = some (r1, r2)) ∧ Aside0 (kq ≤ k) ∧ Aside0 (Kd.R Kd.bool 4 w' w.heap.size (fun _ => True) v664 x11_1) ∧ Aside0 (w'.heap[gb661]? = some (.cells #[.int .i64 a0_0, (.slice A0_1 l0_1.length c0_1), (.slice A0_2 l0_2.length c0_2)] 25 (0, 0))) ∧ Aside0 (Below w.heap.size w w'))
     case atStart => exact ⟨(y663), (0), rsz, H', ⟨Nat.le_refl _⟩, ⟨by (with_reducible repeat (first | apply Kd.R_alloc | apply Kd.R_drewN | apply Kd.R_drew)); exact HO665.out⟩, ⟨blkz⟩, ⟨bel⟩⟩
     case round =>
      clear H'
      try clear c1
      try clear c2
      try clear p2
      try clear c3
      try clear c4
      try clear c6
      try clear c6b0
      try clear c6b1
      try clear c7
      try clear c7b0
      try clear c7b1
      try clear c11
      try clear c11b0
      try clear c11b1
      try clear c12
      try clear c12b0
      try clear c12b1
      try clear hcz14_0
      try clear hcz14_1
      try clear hcz14_2
      try clear hcz16_0
      try clear hcz16_1
      try clear hcz16_2
      try clear hcz9_0
      try clear hcz9_1
      try clear hcz9_2
      try clear hfz14_0
      try clear hfz14_1
      try clear hfz14_2
      try clear hfz16_0
      try clear hfz16_1
      try clear hfz16_2
      try clear hfz9_0
      try clear hfz9_1
      try clear hfz9_2
      obtain ⟨x11_1, x12_1, rfl, HA, HK1, HO_11, BK661, HB⟩ := hrel
      cases gk with
      | zero => exact absurd HA.out (by simp [dropperref05_AreFeeds.l0])
      | succ k1 =>
       have H := HA.out
       clear HA
       simp only [dropperref05_AreFeeds.l0] at H
       by_cases c19 : x12_1 < (l3.length : Int)
       ·
        rw [if_pos c19] at H
        have c19b0 : decide (x12_1 < (l3.length : Int)) = true := decide_eq_true c19
        clear c19
        by_cases c20 : 0 ≤ x12_1
        ·
         rw [if_pos c20] at H
         have c20b0 : decide (0 ≤ x12_1) = true := decide_eq_true c20
         clear c20
         replace H := Option.bind_eq_some_iff.mp H
         obtain ⟨t667, A210, H⟩ := H
         replace H : (if t667 = true then (dropperref05_AreFeeds.l1 k1 a1 a2 l3 x11_1 x12_1 0 a0_0 l0_1 l0_2) else (some (false, 0))) = some (r1, r2) := H
         have A21 := Aside0.mk A210
         clear A210
         by_cases c22 : t667 = true
         ·
          subst c22
          have H1 : (dropperref05_AreFeeds.l1 k1 a1 a2 l3 x11_1 x12_1 0 a0_0 l0_1 l0_2) = some (r1, r2) := by rw [if_pos rfl] at H; exact H
          clear H
          have H := H1
          clear H1
          have H' := Aside0.mk H
          clear H
          try go_wp2
          have n0_ := Aside0.mk (Kd.R_drew HO_11.out)
          have n1_ := Aside0.mk (blk_drew BK661.out)
          have n2_ := Aside0.mk (below_drew1 HB.out)
          clear HO_11
          clear BK661
          clear HB
          have HO_11 := n0_
          have BK661 := n1_
          have HB := n2_
          clear n0_ n1_ n2_
          have p666 : 0 ≤ (x12_1 : Int) := of_decide_eq_true asz
          have q666 : x12_1 < (l3.length : Int) := of_decide_eq_true asz
          obtain ⟨ad666, A666_0, c666_0, e666, hx666_0, hl666_0, hi666_0⟩ := at_L4 HR3.out x12_1 p666 q666
          have hw666_0 := hx666_0
          cases e666
          replace hx666_0 := (HB.out.cell (World.block_lt_of_cell? w _ hx666_0)).trans hx666_0
          have HR666_0 := Aside0.mk hi666_0
          have HC666_0 := Aside0.mk hl666_0
          clear hi666_0 hl666_0
          replace p666 := eq_true p666
          replace q666 := eq_true q666
          refine start_ (n := 9) (S := fun w' => w'.cell? ⟨gb661, 0, none⟩ = some (.int .i64 a0_0) ∧ w'.cell? ⟨gb661, 1, none⟩ = some (.slice A0_1 l0_1.length c0_1) ∧ w'.cell? ⟨gb661, 2, none⟩ = some (.slice A0_2 l0_2.length c0_2) ∧ w'.cell? (ad666.add (x12_1).toNat) = some (.slice A666_0 (rd_L4 l3 x12_1).length c666_0)) (ds := []) #[false, false, false, false, false, false, false, false, false] (by kernel_rfl) rfl rfl ⟨(blk_cell BK661.out 0).trans rfl, (blk_cell BK661.out 1).trans rfl, (blk_cell BK661.out 2).trans rfl, ((HB.out.cell (World.block_lt_of_cell? w _ hw666_0)).trans hw666_0)⟩ (fun hHeld => ?_); refine with_tabW dropperref05_AreFeeds.tab10 dropperref05_AreFeeds.bits10 (fun HT_ HW_ => ?_)
          generalize wr.drew = w23 at HO_11 BK661 HB HR666_0 hx666_0 hHeld ⊢
          refine pst (i := 1) (N := some 35) (bz 9 2) (any_of HT_.out (by kernel_rfl)) ?_
          refine pst (i := 2) (N := some 36) (bz 9 6) (any_of HT_.out (by kernel_rfl)) ?_
          refine pst (i := 3) (N := some 37) (bz 9 14) (any_of HT_.out (by kernel_rfl)) ?_
          refine pst (i := 4) (N := some 38) (bz 9 30) (any_of HT_.out (by kernel_rfl)) ?_
          refine pst (i := 5) (N := some 39) (bz 9 62) (any_of HT_.out (by kernel_rfl)) ?_
          refine tst4 (i := 0) (N := some 34) (bz 9 63) (take_ofW HT_.out HW_.out (by kernel_rfl)) hHeld ?_
          refine tst4 (i := 6) (N := some 40) (bz 9 127) (take_ofW HT_.out HW_.out (by kernel_rfl)) hHeld ?_
          refine one_ (i := 7) (N := some 41) #[true, true, true, true, true, true, true, true, false] rfl rfl (one_of HT_.out (by kernel_rfl)) (by decide) (fun K hK => ?_)
          refine goes_ Tryd.func79 (by kernel_rfl) rfl #[.agg #[.int .i64 a0_0, .slice A0_1 l0_1.length c0_1, .slice A0_2 l0_2.length c0_2], .int .i64 a1, .int .i64 a2, .slice A666_0 (rd_L4 l3 x12_1).length c666_0] (by rfl) rfl rfl mapz ?_
          with_reducible refine (dropperref05_isFeed.calls k1 a0_0 _ _ l0_1 _ _ l0_2 a1 a2 _ _ (rd_L4 l3 x12_1) true _ ?side1 ?side2 ?side3 ?side4 ?side5 ?side6 A21.out).mono ?_
          (case side1 => exact cbz HR0_1)
          (case side2 => exact HC0_1.out)
          (case side3 => exact cbz HR0_2)
          (case side4 => exact HC0_2.out)
          (case side5 => exact cbz HR666_0)
          (case side6 => exact HC666_0.out)
          rintro e w24 ⟨rfl, hb⟩
          refine ⟨_, rfl, ?_⟩
          have n0_ := Aside0.mk (Kd.R_below (ownx HO_11) hb)
          have n1_ := Aside0.mk (blk_below (g := gb661) blkz hb)
          have n2_ := Aside0.mk (below_step bel hb)
          clear HO_11
          clear BK661
          clear HB
          have HO_11 := n0_
          have BK661 := n1_
          have HB := n2_
          clear n0_ n1_ n2_
          (try clear hb)
          (try clear hb2)
          (try clear hk)
          (try clear hi)
          refine hK.out _ _ ⟨(blk_cell BK661.out 0).trans rfl, (blk_cell BK661.out 1).trans rfl, (blk_cell BK661.out 2).trans rfl, ((HB.out.cell (World.block_lt_of_cell? w _ hw666_0)).trans hw666_0)⟩ (fun hHeld => ?_)
          clear hK K
          refine norm_ (a' := ?_) ?_ ?_
          rotate_left
          ·
           show Act.put _ (some 41) _ = _
           simp only [Act.put, List.setIfInBounds_toArray, List.set_cons_zero, List.set_cons_succ, i64_w, i32_w]
           rfl
          refine pst (i := 8) (N := some 42) (bz 9 511) (any_of HT_.out (by kernel_rfl)) ?_
          refine done_ (done_of HT_.out (by kernel_rfl)) ?_
          try go_wp2
          go_loopg [13] k1 (fun kq v13 w' => ∃ (x11_2 : List Bool) (x13_2 : Int), v13 = .int .i64 x13_2 ∧ Aside0 (dropperref05_AreFeeds.l1 kq a1 a2 l3 x11_2 x12_1 x13_2 a0_0 l0_1 l0_2 = some (r1, r2)) ∧ Aside0 (kq ≤ k1) ∧ Aside0 (Kd.R Kd.bool 4 w' w.heap.size (fun _ => True) v664 x11_2) ∧ Aside0 (w'.heap[gb661]? = some (.cells #[.int .i64 a0_0, (.slice A0_1 l0_1.length c0_1), (.slice A0_2 l0_2.length c0_2)] 25 (0, 0))) ∧ Aside0 (Below w.heap.size w w'))
          case atStart => exact ⟨(x11_1), (0), rsz, H', ⟨Nat.le_refl _⟩, ⟨by (with_reducible repeat (first | apply Kd.R_alloc | apply Kd.R_drewN | apply Kd.R_drew)); exact HO_11.out⟩, ⟨blkz⟩, ⟨bel⟩⟩
          case round =>
           clear H'
           try clear c1
           try clear c2
           try clear p2
           try clear c3
           try clear c4
           try clear c6
           try clear c6b0
           try clear c6b1
           try clear p6
           try clear q6
           try clear hx6
           try clear c7
           try clear c7b0
           try clear c7b1
           try clear c11
           try clear c11b0
           try clear c11b1
           try clear c12
           try clear c12b0
           try clear c12b1
           try clear c19
           try clear c19b0
           try clear c20
           try clear c20b0
           try clear c22
           try clear hcz14_0
           try clear hcz14_1
           try clear hcz14_2
           try clear hcz16_0
           try clear hcz16_1
           try clear hcz16_2
           try clear hcz9_0
           try clear hcz9_1
           try clear hcz9_2
           try clear hfz14_0
           try clear hfz14_1
           try clear hfz14_2
           try clear hfz16_0
           try clear hfz16_1
           try clear hfz16_2
           try clear hfz9_0
           try clear hfz9_1
           try clear hfz9_2
           try clear hx666_0
           try clear p2
           try clear p666
           try clear q666
           obtain ⟨x11_2, x13_2, rfl, HA, HK2, HO_11, BK661, HB⟩ := hrel
           cases gk with
           | zero => exact absurd HA.out (by simp [dropperref05_AreFeeds.l1])
           | succ k2 =>
            have H := HA.out
            clear HA
            simp only [dropperref05_AreFeeds.l1] at H
            by_cases c25 : 0 ≤ x12_1
            ·
             rw [if_pos c25] at H
             have c25b0 : decide (0 ≤ x12_1) = true := decide_eq_true c25
             clear c25
             by_cases c26 : x12_1 < (l3.length : Int)
             ·
              rw [if_pos c26] at H
              have c26b0 : decide (x12_1 < (l3.length : Int)) = true := decide_eq_true c26
              clear c26
              by_cases c27 : x13_2 < ((rd_L4 l3 x12_1).length : Int)
              ·
               rw [if_pos c27] at H
               have c27b0 : decide (x13_2 < ((rd_L4 l3 x12_1).length : Int)) = true := decide_eq_true c27
               clear c27
               by_cases c28 : 0 ≤ x13_2
               ·
                rw [if_pos c28] at H
                have c28b0 : decide (0 ≤ x13_2) = true := decide_eq_true c28
                clear c28
                by_cases c29 : 0 ≤ (rd (rd_L4 l3 x12_1) x13_2)
                ·
                 rw [if_pos c29] at H
                 have c29b0 : decide (0 ≤ (rd (rd_L4 l3 x12_1) x13_2)) = true := decide_eq_true c29
                 clear c29
                 by_cases c30 : (rd (rd_L4 l3 x12_1) x13_2) < (x11_2.length : Int)
                 ·
                  rw [if_pos c30] at H
                  have c30b0 : decide ((rd (rd_L4 l3 x12_1) x13_2) < (x11_2.length : Int)) = true := decide_eq_true c30
                  clear c30
                  obtain ⟨bq31, hbq31⟩ : ∃ b_ : Bool, b_ = (rdOf false x11_2 (rd (rd_L4 l3 x12_1) x13_2)) := ⟨_, rfl⟩
                  replace H : (if bq31 = true then (some (false, 0)) else (dropperref05_AreFeeds.l1 k2 a1 a2 l3 (x11_2.set ((rd (rd_L4 l3 x12_1) x13_2) : Int).toNat true) x12_1 (wrap64 (x13_2 + 1)) a0_0 l0_1 l0_2)) = some (r1, r2) := by rw [← hbq31] at H; exact H
                  have Nbq31 := Aside0.mk hbq31
                  clear hbq31
                  by_cases c32 : bq31 = true
                  ·
                   subst c32
                   have H1 : (some (false, 0)) = some (r1, r2) := by rw [if_pos rfl] at H; exact H
                   clear H
                   have H := H1
                   clear H1
                   simp only [Option.some.injEq, Prod.mk.injEq] at H
                   obtain ⟨rfl, rfl⟩ := H
                   have p668 : 0 ≤ (x12_1 : Int) := of_decide_eq_true asz
                   have q668 : x12_1 < (l3.length : Int) := of_decide_eq_true asz
                   obtain ⟨ad668, A668_0, c668_0, e668, hx668_0, hl668_0, hi668_0⟩ := at_L4 HR3.out x12_1 p668 q668
                   obtain rfl : ad666 = ad668 := (by injection e668)
                   replace hx668_0 := (HB.out.cell (World.block_lt_of_cell? w _ hx668_0)).trans hx668_0
                   have HR668_0 := Aside0.mk hi668_0
                   have HC668_0 := Aside0.mk hl668_0
                   clear hi668_0 hl668_0
                   replace p668 := eq_true p668
                   replace q668 := eq_true q668
                   have p669 : 0 ≤ (x12_1 : Int) := of_decide_eq_true asz
                   have q669 : x12_1 < (l3.length : Int) := of_decide_eq_true asz
                   obtain ⟨ad669, A669_0, c669_0, e669, hx669_0, hl669_0, hi669_0⟩ := at_L4 HR3.out x12_1 p669 q669
                   obtain rfl : ad666 = ad669 := (by injection e669)
                   replace hx669_0 := (HB.out.cell (World.block_lt_of_cell? w _ hx669_0)).trans hx669_0
                   have HR669_0 := Aside0.mk hi669_0
                   have HC669_0 := Aside0.mk hl669_0
                   clear hi669_0 hl669_0
                   replace p669 := eq_true p669
                   replace q669 := eq_true q669
                   have ea_ := Option.some.inj (hx668_0.symm.trans hx669_0)
                   injection ea_ with ea_ en_ ec_
                   subst ea_
                   subst ec_
                   clear en_
                   have p670 : 0 ≤ (x13_2 : Int) := of_decide_eq_true asz
                   have q670 : x13_2 < ((rd_L4 l3 x12_1).length : Int) := of_decide_eq_true asz
                   obtain ⟨ad670, e670, hx670_0⟩ := Kd.at_int HR669_0.out x13_2 p670 q670
                   cases e670
                   replace hx670_0 := (HB.out.cell (World.block_lt_of_cell? w _ hx670_0)).trans hx670_0
                   replace p670 := eq_true p670
                   replace q670 := eq_true q670
                   obtain ⟨Ao33, co33, eo33⟩ := Kd.R_slice HO_11.out
                   subst eo33
                   have p671 : 0 ≤ ((rd (rd_L4 l3 x12_1) x13_2) : Int) := of_decide_eq_true asz
                   have q671 : (rd (rd_L4 l3 x12_1) x13_2) < (x11_2.length : Int) := of_decide_eq_true asz
                   obtain ⟨ad671, e671, hx671_0⟩ := Kd.at_bool (Kd.R_reads' HO_11.out).2.2 (rd (rd_L4 l3 x12_1) x13_2) p671 q671
                   (try rw [← Nbq31.out] at hx671_0)
                   cases e671
                   replace p671 := eq_true p671
                   replace q671 := eq_true q671
                   go_wp2
                   go_ret2
                   exact ⟨ezz, bel⟩
                  ·
                   replace c32 := Bool.eq_false_iff.mpr c32
                   subst c32
                   have H1 : (dropperref05_AreFeeds.l1 k2 a1 a2 l3 (x11_2.set ((rd (rd_L4 l3 x12_1) x13_2) : Int).toNat true) x12_1 (wrap64 (x13_2 + 1)) a0_0 l0_1 l0_2) = some (r1, r2) := by rw [if_neg (show ¬ (false = true) by decide)] at H; exact H
                   clear H
                   have H := H1
                   clear H1
                   obtain ⟨y674, hy674⟩ : ∃ y_ : List Bool, y_ = (x11_2.set ((rd (rd_L4 l3 x12_1) x13_2) : Int).toNat true) := ⟨_, rfl⟩
                   replace H : (dropperref05_AreFeeds.l1 k2 a1 a2 l3 y674 x12_1 (wrap64 (x13_2 + 1)) a0_0 l0_1 l0_2) = some (r1, r2) := by first | (rw [hy674]; with_reducible exact H) | (have H2_ := (Option.bind_some _ _).symm.trans H; rw [hy674]; with_reducible exact H2_) | (have H2_ := (Option.bind_some _ _).symm.trans H; with_reducible exact H2_) | with_reducible exact H | (rw [hy674]; exact H) | exact H
                   have Ny674 := Aside0.mk hy674
                   clear hy674
                   have H' := Aside0.mk H
                   clear H
                   have p668 : 0 ≤ (x12_1 : Int) := of_decide_eq_true asz
                   have q668 : x12_1 < (l3.length : Int) := of_decide_eq_true asz
                   obtain ⟨ad668, A668_0, c668_0, e668, hx668_0, hl668_0, hi668_0⟩ := at_L4 HR3.out x12_1 p668 q668
                   obtain rfl : ad666 = ad668 := (by injection e668)
                   replace hx668_0 := (HB.out.cell (World.block_lt_of_cell? w _ hx668_0)).trans hx668_0
                   have HR668_0 := Aside0.mk hi668_0
                   have HC668_0 := Aside0.mk hl668_0
                   clear hi668_0 hl668_0
                   replace p668 := eq_true p668
                   replace q668 := eq_true q668
                   have p669 : 0 ≤ (x12_1 : Int) := of_decide_eq_true asz
                   have q669 : x12_1 < (l3.length : Int) := of_decide_eq_true asz
                   obtain ⟨ad669, A669_0, c669_0, e669, hx669_0, hl669_0, hi669_0⟩ := at_L4 HR3.out x12_1 p669 q669
                   obtain rfl : ad666 = ad669 := (by injection e669)
                   replace hx669_0 := (HB.out.cell (World.block_lt_of_cell? w _ hx669_0)).trans hx669_0
                   have HR669_0 := Aside0.mk hi669_0
                   have HC669_0 := Aside0.mk hl669_0
                   clear hi669_0 hl669_0
                   replace p669 := eq_true p669
                   replace q669 := eq_true q669
                   have ea_ := Option.some.inj (hx668_0.symm.trans hx669_0)
                   injection ea_ with ea_ en_ ec_
                   subst ea_
                   subst ec_
                   clear en_
                   have p670 : 0 ≤ (x13_2 : Int) := of_decide_eq_true asz
                   have q670 : x13_2 < ((rd_L4 l3 x12_1).length : Int) := of_decide_eq_true asz
                   obtain ⟨ad670, e670, hx670_0⟩ := Kd.at_int HR669_0.out x13_2 p670 q670
                   cases e670
                   replace hx670_0 := (HB.out.cell (World.block_lt_of_cell? w _ hx670_0)).trans hx670_0
                   replace p670 := eq_true p670
                   replace q670 := eq_true q670
                   obtain ⟨Ao35, co35, eo35⟩ := Kd.R_slice HO_11.out
                   subst eo35
                   have p671 : 0 ≤ ((rd (rd_L4 l3 x12_1) x13_2) : Int) := of_decide_eq_true asz
                   have q671 : (rd (rd_L4 l3 x12_1) x13_2) < (x11_2.length : Int) := of_decide_eq_true asz
                   obtain ⟨ad671, e671, hx671_0⟩ := Kd.at_bool (Kd.R_reads' HO_11.out).2.2 (rd (rd_L4 l3 x12_1) x13_2) p671 q671
                   (try rw [← Nbq31.out] at hx671_0)
                   cases e671
                   replace p671 := eq_true p671
                   replace q671 := eq_true q671
                   have p672 : 0 ≤ (x12_1 : Int) := of_decide_eq_true asz
                   have q672 : x12_1 < (l3.length : Int) := of_decide_eq_true asz
                   obtain ⟨ad672, A672_0, c672_0, e672, hx672_0, hl672_0, hi672_0⟩ := at_L4 HR3.out x12_1 p672 q672
                   obtain rfl : ad666 = ad672 := (by injection e672)
                   replace hx672_0 := (HB.out.cell (World.block_lt_of_cell? w _ hx672_0)).trans hx672_0
                   have HR672_0 := Aside0.mk hi672_0
                   have HC672_0 := Aside0.mk hl672_0
                   clear hi672_0 hl672_0
                   replace p672 := eq_true p672
                   replace q672 := eq_true q672
                   have ea_ := Option.some.inj (hx668_0.symm.trans hx672_0)
                   injection ea_ with ea_ en_ ec_
                   subst ea_
                   subst ec_
                   clear en_
                   have p673 : 0 ≤ (x13_2 : Int) := of_decide_eq_true asz
                   have q673 : x13_2 < ((rd_L4 l3 x12_1).length : Int) := of_decide_eq_true asz
                   obtain ⟨ad673, e673, hx673_0⟩ := Kd.at_int HR672_0.out x13_2 p673 q673
                   cases e673
                   replace hx673_0 := (HB.out.cell (World.block_lt_of_cell? w _ hx673_0)).trans hx673_0
                   replace p673 := eq_true p673
                   replace q673 := eq_true q673
                   have p34 : 0 ≤ ((rd (rd_L4 l3 x12_1) x13_2) : Int) := of_decide_eq_true asz
                   have q34 : ((rd (rd_L4 l3 x12_1) x13_2) : Int) < ((x11_2.length : Int) : Int) := of_decide_eq_true asz
                   obtain ⟨go34, co34, eo34, gb34, gl34, cl34, HG34⟩ := Kd.R_form HO_11.out (by omega)
                   (first | cases eo34 | (injection eo34 with ea_ en_ ec_; (first | subst ea_ | (injection ea_ with ea_; subst ea_)); subst ec_; clear en_))
                   have GB34 := Aside0.mk gb34
                   have GG34 := Aside0.mk HG34
                   clear gb34 gl34 HG34
                   (first | simp only [add_plain] at hx671_0 | skip)
                   obtain ⟨hx34_0, hf34_0⟩ := Kd.R_celln false HO_11.out ((rd (rd_L4 l3 x12_1) x13_2) : Int) p34 q34
                   replace p34 := eq_true p34
                   replace q34 := eq_true q34
                   have HP36 := Kd.R_putg HO_11.out ((rd (rd_L4 l3 x12_1) x13_2) : Int) true
                   go_wp2_with (first | ((with_reducible refine gate_store (t := 4) (p := 70) rfl ?_); refine store_event (t := 4) (p := 70) (v := ?vo_w37) (w1 := (wr.setCell ⟨go34, ((rd (rd_L4 l3 x12_1) x13_2) : Int).toNat, none⟩ (.bool true))) ?hg ?ho ?hn ?hr ?_; (case ho => rfl); (case hg => rfl); (case hn => rfl); (case hr => first | (go_simp; done) | (go_simp; rfl)); intro w37 hw; have hg : wr.grownBy w37 (some go34) := (by rw [hw]; exact HP36.2); have hp_ : Kd.R Kd.bool 4 w37 w.heap.size (fun _ => True) (.slice (some ⟨go34, 0, none⟩) x11_2.length co35) y674 := (by rw [hw, Ny674.out]; exact HP36.1); clear HP36; replace BK661 := Aside0.mk (blk_grown (g := gb661) (o := .cells #[.int .i64 a0_0, .slice A0_1 l0_1.length c0_1, .slice A0_2 l0_2.length c0_2] 25 (0, 0)) blkz hg (Kd.R_ne HO_11.out BK661.out (by decide))); replace HO_11 := Aside0.mk (hp_); replace HB := Aside0.mk ((by rw [hw]; exact below_set (HB.out) GB34.out : Below w.heap.size w w37)); clear hg hw hp_))
                   go_roundg k2
                   case measure => have := HK1.out; have := HK2.out; omega
                   case rel => exact ⟨(y674), (wrap64 (x13_2 + 1)), rsz, H', ⟨by have := HK1.out; have := HK2.out; omega⟩, ⟨by (with_reducible repeat (first | apply Kd.R_alloc | apply Kd.R_drewN | apply Kd.R_drew)); exact HO_11.out⟩, ⟨blkz⟩, ⟨bel⟩⟩
                 ·
                  rw [if_neg c30] at H
                  exact absurd H (by simp)
                ·
                 rw [if_neg c29] at H
                 exact absurd H (by simp)
               ·
                rw [if_neg c28] at H
                exact absurd H (by simp)
              ·
               rw [if_neg c27] at H
               have c27b0 : decide (x13_2 < ((rd_L4 l3 x12_1).length : Int)) = false := decide_eq_false c27
               clear c27
               have H' := Aside0.mk H
               clear H
               have p668 : 0 ≤ (x12_1 : Int) := of_decide_eq_true asz
               have q668 : x12_1 < (l3.length : Int) := of_decide_eq_true asz
               obtain ⟨ad668, A668_0, c668_0, e668, hx668_0, hl668_0, hi668_0⟩ := at_L4 HR3.out x12_1 p668 q668
               obtain rfl : ad666 = ad668 := (by injection e668)
               replace hx668_0 := (HB.out.cell (World.block_lt_of_cell? w _ hx668_0)).trans hx668_0
               have HR668_0 := Aside0.mk hi668_0
               have HC668_0 := Aside0.mk hl668_0
               clear hi668_0 hl668_0
               replace p668 := eq_true p668
               replace q668 := eq_true q668
               go_wp2
               go_roundg k2
               case measure => have := HK1.out; have := HK2.out; omega
               case rel => exact ⟨(x11_2), (wrap64 (x12_1 + 1)), rsz, H', ⟨by have := HK1.out; have := HK2.out; omega⟩, ⟨by (with_reducible repeat (first | apply Kd.R_alloc | apply Kd.R_drewN | apply Kd.R_drew)); exact HO_11.out⟩, ⟨blkz⟩, ⟨bel⟩⟩
             ·
              rw [if_neg c26] at H
              exact absurd H (by simp)
            ·
             rw [if_neg c25] at H
             exact absurd H (by simp)
         ·
          replace c22 := Bool.eq_false_iff.mpr c22
          subst c22
          have H1 : (some (false, 0)) = some (r1, r2) := by rw [if_neg (show ¬ (false = true) by decide)] at H; exact H
          clear H
          have H := H1
          clear H1
          simp only [Option.some.injEq, Prod.mk.injEq] at H
          obtain ⟨rfl, rfl⟩ := H
          try go_wp2
          have n0_ := Aside0.mk (Kd.R_drew HO_11.out)
          have n1_ := Aside0.mk (blk_drew BK661.out)
          have n2_ := Aside0.mk (below_drew1 HB.out)
          clear HO_11
          clear BK661
          clear HB
          have HO_11 := n0_
          have BK661 := n1_
          have HB := n2_
          clear n0_ n1_ n2_
          have p666 : 0 ≤ (x12_1 : Int) := of_decide_eq_true asz
          have q666 : x12_1 < (l3.length : Int) := of_decide_eq_true asz
          obtain ⟨ad666, A666_0, c666_0, e666, hx666_0, hl666_0, hi666_0⟩ := at_L4 HR3.out x12_1 p666 q666
          have hw666_0 := hx666_0
          cases e666
          replace hx666_0 := (HB.out.cell (World.block_lt_of_cell? w _ hx666_0)).trans hx666_0
          have HR666_0 := Aside0.mk hi666_0
          have HC666_0 := Aside0.mk hl666_0
          clear hi666_0 hl666_0
          replace p666 := eq_true p666
          replace q666 := eq_true q666
          refine start_ (n := 9) (S := fun w' => w'.cell? ⟨gb661, 0, none⟩ = some (.int .i64 a0_0) ∧ w'.cell? ⟨gb661, 1, none⟩ = some (.slice A0_1 l0_1.length c0_1) ∧ w'.cell? ⟨gb661, 2, none⟩ = some (.slice A0_2 l0_2.length c0_2) ∧ w'.cell? (ad666.add (x12_1).toNat) = some (.slice A666_0 (rd_L4 l3 x12_1).length c666_0)) (ds := []) #[false, false, false, false, false, false, false, false, false] (by kernel_rfl) rfl rfl ⟨(blk_cell BK661.out 0).trans rfl, (blk_cell BK661.out 1).trans rfl, (blk_cell BK661.out 2).trans rfl, ((HB.out.cell (World.block_lt_of_cell? w _ hw666_0)).trans hw666_0)⟩ (fun hHeld => ?_); refine with_tabW dropperref05_AreFeeds.tab10 dropperref05_AreFeeds.bits10 (fun HT_ HW_ => ?_)
          generalize wr.drew = w38 at HO_11 BK661 HB HR666_0 hx666_0 hHeld ⊢
          refine pst (i := 1) (N := some 35) (bz 9 2) (any_of HT_.out (by kernel_rfl)) ?_
          refine pst (i := 2) (N := some 36) (bz 9 6) (any_of HT_.out (by kernel_rfl)) ?_
          refine pst (i := 3) (N := some 37) (bz 9 14) (any_of HT_.out (by kernel_rfl)) ?_
          refine pst (i := 4) (N := some 38) (bz 9 30) (any_of HT_.out (by kernel_rfl)) ?_
          refine pst (i := 5) (N := some 39) (bz 9 62) (any_of HT_.out (by kernel_rfl)) ?_
          refine tst4 (i := 0) (N := some 34) (bz 9 63) (take_ofW HT_.out HW_.out (by kernel_rfl)) hHeld ?_
          refine tst4 (i := 6) (N := some 40) (bz 9 127) (take_ofW HT_.out HW_.out (by kernel_rfl)) hHeld ?_
          refine one_ (i := 7) (N := some 41) #[true, true, true, true, true, true, true, true, false] rfl rfl (one_of HT_.out (by kernel_rfl)) (by decide) (fun K hK => ?_)
          refine goes_ Tryd.func79 (by kernel_rfl) rfl #[.agg #[.int .i64 a0_0, .slice A0_1 l0_1.length c0_1, .slice A0_2 l0_2.length c0_2], .int .i64 a1, .int .i64 a2, .slice A666_0 (rd_L4 l3 x12_1).length c666_0] (by rfl) rfl rfl mapz ?_
          with_reducible refine (dropperref05_isFeed.calls k1 a0_0 _ _ l0_1 _ _ l0_2 a1 a2 _ _ (rd_L4 l3 x12_1) false _ ?side1 ?side2 ?side3 ?side4 ?side5 ?side6 A21.out).mono ?_
          (case side1 => exact cbz HR0_1)
          (case side2 => exact HC0_1.out)
          (case side3 => exact cbz HR0_2)
          (case side4 => exact HC0_2.out)
          (case side5 => exact cbz HR666_0)
          (case side6 => exact HC666_0.out)
          rintro e w39 ⟨rfl, hb⟩
          refine ⟨_, rfl, ?_⟩
          have n0_ := Aside0.mk (Kd.R_below (ownx HO_11) hb)
          have n1_ := Aside0.mk (blk_below (g := gb661) blkz hb)
          have n2_ := Aside0.mk (below_step bel hb)
          clear HO_11
          clear BK661
          clear HB
          have HO_11 := n0_
          have BK661 := n1_
          have HB := n2_
          clear n0_ n1_ n2_
          (try clear hb)
          (try clear hb2)
          (try clear hk)
          (try clear hi)
          refine hK.out _ _ ⟨(blk_cell BK661.out 0).trans rfl, (blk_cell BK661.out 1).trans rfl, (blk_cell BK661.out 2).trans rfl, ((HB.out.cell (World.block_lt_of_cell? w _ hw666_0)).trans hw666_0)⟩ (fun hHeld => ?_)
          clear hK K
          refine norm_ (a' := ?_) ?_ ?_
          rotate_left
          ·
           show Act.put _ (some 41) _ = _
           simp only [Act.put, List.setIfInBounds_toArray, List.set_cons_zero, List.set_cons_succ, i64_w, i32_w]
           rfl
          refine pst (i := 8) (N := some 42) (bz 9 511) (any_of HT_.out (by kernel_rfl)) ?_
          refine done_ (done_of HT_.out (by kernel_rfl)) ?_
          try go_wp2
          go_ret2
          exact ⟨ezz, bel⟩
        ·
         rw [if_neg c20] at H
         exact absurd H (by simp)
       ·
        rw [if_neg c19] at H
        have c19b0 : decide (x12_1 < (l3.length : Int)) = false := decide_eq_false c19
        clear c19
        simp only [Option.some.injEq, Prod.mk.injEq] at H
        obtain ⟨rfl, rfl⟩ := H
        go_wp2
        go_ret2
        exact ⟨ezz, bel⟩
    ·
     rw [if_neg c12] at H
     exact absurd H (by simp)
   ·
    rw [if_neg c11] at H
    exact absurd H (by simp)
 ·
  rw [if_neg c6] at H
  have c6b0 : (t662 == 0) = false := beq_eq_false_iff_ne.mpr c6
  have c6b1 : (t662 != 0) = true := bne_iff_ne.mpr c6
  simp only [Option.some.injEq, Prod.mk.injEq] at H
  obtain ⟨rfl, rfl⟩ := H
  go_enter Tryd.func40, Tryd.ntmps40
  go_wp2_with (first | ((with_reducible refine gate_dst (N := 4) rfl ?_); refine box_event ?hg (N := 4) ?hd (cs := #[.int .i64 a0_0, .slice A0_1 l0_1.length c0_1, .slice A0_2 l0_2.length c0_2]) (t := 25) ?hr ?_; (case hd => rfl); (case hg => rfl); (case hr => first | (go_simp; done) | (go_simp; rfl)); intro gb661 hg w40 hbox hb; have BK661 := Aside0.mk (hbox); have GW661 := bsz (w := w) hg; have GE661 := GW661; replace HB := Aside0.mk (below_step bel hb); clear hb hbox hg; have hcz41_0 := blkc BK661.out 0 (.int .i64 a0_0) rfl; have hcz41_1 := blkc BK661.out 1 (.slice A0_1 l0_1.length c0_1) rfl; have hcz41_2 := blkc BK661.out 2 (.slice A0_2 l0_2.length c0_2) rfl) | ((with_reducible refine gate_callee (f := 25) rfl ?_); refine goesL_ (some 17) rfl rfl Tryd.func25 (by kernel_rfl) rfl #[.agg #[.int .i64 a0_0, .slice A0_1 l0_1.length c0_1, .slice A0_2 l0_2.length c0_2], .int .i64 a1, .int .i64 a2] rfl mapz ?_; (with_reducible refine (dropperref05_Why.calls k a0_0 _ _ l0_1 _ _ l0_2 a1 a2 t662 _ ?side1 ?side2 ?side3 ?side4 A5.out).mono ?_); (case side1 => exact cbz HR0_1); (case side2 => exact HC0_1.out); (case side3 => exact cbz HR0_2); (case side4 => exact HC0_2.out); rintro e w42 ⟨rfl, hb⟩; refine ⟨_, rfl, ?_⟩; replace BK661 := Aside0.mk (blk_below (g := gb661) blkz hb); replace HB := Aside0.mk (below_step bel hb); (try clear hb); (try clear hb2); (try clear hk); (try clear hi)))
  go_ret2
  exact ⟨ezz, bel⟩

end Go.Proofs.YtoilhnmdemnknaaDoor.XFeed