-- Written by wip/pack.py of this repo: texts of this claim, put together.
import Derived.Test.YtoilhnmdemnknaaDoorKFeedReachd
namespace Go.Proofs.YtoilhnmdemnknaaDoor.XFeed
open Go.RowKit Go.Proofs.YtoilhnmdemnknaaDoorW.PrintWords Go.Proofs.YtoilhnmdemnknaaDoorW.PrintLast Go.Proofs.YtoilhnmdemnknaaDoorW.PrintMore
attribute [local go_sem] max2_int min2_int max_two min_two max_three min_three max_four min_four   -- for this text's walks alone
set_option linter.unusedVariables false
set_option linter.unusedSimpArgs false
/-! ### dropperref05_from: function 67 -/
mutual
def dropperref05_from.l0 : Nat → Int → List Bool → Bool → Int → List (S69) → List (S71) → Option (List Bool)
 | 0, _, _, _, _, _, _ => none
 | k + 1, x1, x7, x8, x248000, x248001, x248002 => if x8 = true then (dropperref05_from.l1 k x1 x7 false 0 x248000 x248001 x248002) else (some x7)
def dropperref05_from.l1 : Nat → Int → List Bool → Bool → Int → Int → List (S69) → List (S71) → Option (List Bool)
 | 0, _, _, _, _, _, _, _ => none
 | k + 1, x1, x7, x8, x9, x248000, x248001, x248002 => if x9 < (x248001.length : Int) then (if 0 ≤ x9 then ((dropperref05_closed.f x1 x9).bind fun t254 => (if t254 = true then (if 0 ≤ ((rd_T69 x248001 x9).f0) then (if ((rd_T69 x248001 x9).f0) < (x7.length : Int) then (if 0 ≤ ((rd_T69 x248001 x9).f1) then (if ((rd_T69 x248001 x9).f1) < (x7.length : Int) then (if ((rdOf false x7 ((rd_T69 x248001 x9).f0)) != (rdOf false x7 ((rd_T69 x248001 x9).f1))) = true then (dropperref05_from.l1 k x1 ((x7.set (((rd_T69 x248001 x9).f0) : Int).toNat true).set (((rd_T69 x248001 x9).f1) : Int).toNat true) true (wrap64 (x9 + 1)) x248000 x248001 x248002) else (dropperref05_from.l1 k x1 x7 x8 (wrap64 (x9 + 1)) x248000 x248001 x248002)) else (none)) else (none)) else (none)) else (none)) else (dropperref05_from.l1 k x1 x7 x8 (wrap64 (x9 + 1)) x248000 x248001 x248002))) else (none)) else (dropperref05_from.l0 k x1 x7 x8 x248000 x248001 x248002)
end
def dropperref05_from.f (k : Nat) (a0_0 : Int) (l0_1 : List (S69)) (l0_2 : List (S71)) (a1 : Int) (a2 : Int) : Option (List Bool) := if 0 ≤ a0_0 then (if (a0_0 : Int).toNat ≤ 281474976710656 then ((some (List.replicate (a0_0 : Int).toNat false : List Bool)).bind fun y248 => (if 0 ≤ a2 then (if a2 < (y248.length : Int) then (dropperref05_from.l0 k a1 (y248.set (a2 : Int).toNat true) true a0_0 l0_1 l0_2) else (none)) else (none))) else (none)) else (none)
theorem dropperref05_from.mono_l : ∀ k, (∀ y0 y1 y2 y3 y4 y5, LeO (dropperref05_from.l0 k y0 y1 y2 y3 y4 y5) (dropperref05_from.l0 (k + 1) y0 y1 y2 y3 y4 y5)) ∧ (∀ y0 y1 y2 y3 y4 y5 y6, LeO (dropperref05_from.l1 k y0 y1 y2 y3 y4 y5 y6) (dropperref05_from.l1 (k + 1) y0 y1 y2 y3 y4 y5 y6))
 | 0 => ⟨fun _ _ _ _ _ _ r h => by simp [dropperref05_from.l0] at h, fun _ _ _ _ _ _ _ r h => by simp [dropperref05_from.l1] at h⟩
 | k + 1 => by
  obtain ⟨ih0, ih1⟩ := dropperref05_from.mono_l k
  refine ⟨?_, ?_⟩
  ·
   intro y0 y1 y2 y3 y4 y5
   unfold dropperref05_from.l0
   repeat' first
   | (with_reducible exact ih0 _ _ _ _ _ _)
   | (with_reducible exact ih1 _ _ _ _ _ _ _)
   | (with_reducible exact LeO.refl _)
   | (with_reducible exact LeO.none _)
   | (with_reducible refine LeO.ite ?_ ?_)
   | (with_reducible refine LeO.bind ?_ (fun _ => ?_))
   | exact ih0 _ _ _ _ _ _
   | exact ih1 _ _ _ _ _ _ _
   | exact LeO.none _
   | refine LeO.ite ?_ ?_
   | refine LeO.bind ?_ (fun _ => ?_)
  ·
   intro y0 y1 y2 y3 y4 y5 y6
   unfold dropperref05_from.l1
   repeat' first
   | (with_reducible exact ih0 _ _ _ _ _ _)
   | (with_reducible exact ih1 _ _ _ _ _ _ _)
   | (with_reducible exact LeO.refl _)
   | (with_reducible exact LeO.none _)
   | (with_reducible refine LeO.ite ?_ ?_)
   | (with_reducible refine LeO.bind ?_ (fun _ => ?_))
   | exact ih0 _ _ _ _ _ _
   | exact ih1 _ _ _ _ _ _ _
   | exact LeO.none _
   | refine LeO.ite ?_ ?_
   | refine LeO.bind ?_ (fun _ => ?_)
theorem dropperref05_from.mono : ∀ a0 a1 a2 a3 a4 k, LeO (dropperref05_from.f k a0 a1 a2 a3 a4) (dropperref05_from.f (k + 1) a0 a1 a2 a3 a4) := by
 intro a0 a1 a2 a3 a4 k
 obtain ⟨ih0, ih1⟩ := dropperref05_from.mono_l k
 unfold dropperref05_from.f
 repeat' first
   | (with_reducible exact ih0 _ _ _ _ _ _)
   | (with_reducible exact ih1 _ _ _ _ _ _ _)
   | (with_reducible exact LeO.refl _)
   | (with_reducible exact LeO.none _)
   | (with_reducible refine LeO.ite ?_ ?_)
   | (with_reducible refine LeO.bind ?_ (fun _ => ?_))
   | exact ih0 _ _ _ _ _ _
   | exact ih1 _ _ _ _ _ _ _
   | exact LeO.none _
   | refine LeO.ite ?_ ?_
   | refine LeO.bind ?_ (fun _ => ?_)
def dropperref05_from.T10 : Bool × List (List Nat × List Nat) := (true, [([], []), ([], []), ([0, 1], [0, 1]), ([2, 2], [2]), ([3], [3]), ([3], [3]), ([5, 3], [3, 5]), ([4, 6, 3], [3, 4, 6]), ([7, 3], [3, 7]), ([3], [3]), ([3], [3]), ([10, 3], [3, 10]), ([9, 11, 3], [3, 9, 11]), ([12, 3], [3, 12]), ([8, 13, 3], [3, 8, 13]), ([3, 14], [3, 14])])
def dropperref05_from.B10 : List Nat := [0, 0, 3, 7, 15, 15, 47, 127, 255, 15, 15, 1039, 3599, 7695, 16383, 32767]
theorem dropperref05_from.tab10 : rtab .any (opsOf Tryd.f67 10) = dropperref05_from.T10 := by kernel_rfl
theorem dropperref05_from.bits10 : waitsOk dropperref05_from.T10.2 dropperref05_from.B10 = true := by kernel_rfl
def dropperref05_from.T11 : Bool × List (List Nat × List Nat) := (true, [([], []), ([], []), ([1], [1]), ([], []), ([], []), ([4], [4]), ([0, 2, 0, 1, 2], [0, 2]), ([6, 0, 1, 2], [6]), ([3, 5, 0, 1, 2, 3, 4, 5, 6, 7], [3, 5]), ([8, 7, 0, 1, 2, 3, 4, 5, 6, 7], [8]), ([9, 0, 1, 2, 3, 4, 5, 6, 7, 8, 9], [])])
def dropperref05_from.B11 : List Nat := [0, 0, 2, 0, 0, 16, 7, 71, 255, 511, 1023]
theorem dropperref05_from.tab11 : rtab .any (opsOf Tryd.f67 11) = dropperref05_from.T11 := by kernel_rfl
theorem dropperref05_from.bits11 : waitsOk dropperref05_from.T11.2 dropperref05_from.B11 = true := by kernel_rfl
set_option maxHeartbeats 8000000 in
set_option maxRecDepth 100000 in
theorem dropperref05_from.calls (k : Nat) (a0_0 : Int) (A0_1 : Option Addr) (c0_1 : Nat) (l0_1 : List (S69)) (A0_2 : Option Addr) (c0_2 : Nat) (l0_2 : List (S71)) (a1 : Int) (a2 : Int) (r : List Bool) (w : World) (hr0_1 : Kd.C k69 w A0_1 l0_1.length l0_1) (hc0_1 : l0_1.length ≤ c0_1) (hr0_2 : Kd.C k71 w A0_2 l0_2.length l0_2) (hc0_2 : l0_2.length ≤ c0_2) (h : dropperref05_from.f k a0_0 l0_1 l0_2 a1 a2 = some r) :
  Calls Tryd.prog 67 #[.agg #[.int .i64 a0_0, .slice A0_1 l0_1.length c0_1, .slice A0_2 l0_2.length c0_2], .int .i64 a1, .int .i64 a2] w fun e w' => ∃ v0_ : Value, e = .returned (v0_) ∧ Kd.R Kd.bool 4 w' w.heap.size (fun _ => True) v0_ r ∧ Below w.heap.size w w' := by
 have hu25 := Tryd.underlying25
 have hu69 := Tryd.underlying69
 have HR0_1 := Aside0.mk hr0_1
 have HC0_1 := Aside0.mk hc0_1
 clear hr0_1 hc0_1
 have HR0_2 := Aside0.mk hr0_2
 have HC0_2 := Aside0.mk hc0_2
 clear hr0_2 hc0_2
 have HB := Aside0.mk (Below.refl w.heap.size w)
 have H : (if 0 ≤ a0_0 then (if (a0_0 : Int).toNat ≤ 281474976710656 then ((some (List.replicate (a0_0 : Int).toNat false : List Bool)).bind fun y248 => (if 0 ≤ a2 then (if a2 < (y248.length : Int) then (dropperref05_from.l0 k a1 (y248.set (a2 : Int).toNat true) true a0_0 l0_1 l0_2) else (none)) else (none))) else (none)) else (none)) = some r := h
 clear h
 by_cases c4 : 0 ≤ a0_0
 ·
  rw [if_pos c4] at H
  have c4b0 := eq_true c4
  have c4b1 : decide (0 ≤ a0_0) = true := decide_eq_true c4
  clear c4
  by_cases c5 : (a0_0 : Int).toNat ≤ 281474976710656
  ·
   rw [if_pos c5] at H
   have c5b0 := eq_true c5
   have c5b1 : decide ((a0_0 : Int).toNat ≤ 281474976710656) = true := decide_eq_true c5
   clear c5
   obtain ⟨y248, hy248⟩ : ∃ y_ : List Bool, y_ = (List.replicate (a0_0 : Int).toNat false) := ⟨_, rfl⟩
   replace H : (if 0 ≤ a2 then (if a2 < (y248.length : Int) then (dropperref05_from.l0 k a1 (y248.set (a2 : Int).toNat true) true a0_0 l0_1 l0_2) else (none)) else (none)) = some r := by first | (rw [hy248]; with_reducible exact H) | (have H2_ := (Option.bind_some _ _).symm.trans H; rw [hy248]; with_reducible exact H2_) | (have H2_ := (Option.bind_some _ _).symm.trans H; with_reducible exact H2_) | with_reducible exact H | (rw [hy248]; exact H) | exact H
   have Ny248 := Aside0.mk hy248
   clear hy248
   by_cases c6 : 0 ≤ a2
   ·
    rw [if_pos c6] at H
    have c6b0 : decide (0 ≤ a2) = true := decide_eq_true c6
    clear c6
    by_cases c7 : a2 < (y248.length : Int)
    ·
     rw [if_pos c7] at H
     have c7b0 : decide (a2 < (y248.length : Int)) = true := decide_eq_true c7
     clear c7
     obtain ⟨y251, hy251⟩ : ∃ y_ : List Bool, y_ = (y248.set (a2 : Int).toNat true) := ⟨_, rfl⟩
     replace H : (dropperref05_from.l0 k a1 y251 true a0_0 l0_1 l0_2) = some r := by first | (rw [hy251]; with_reducible exact H) | (have H2_ := (Option.bind_some _ _).symm.trans H; rw [hy251]; with_reducible exact H2_) | (have H2_ := (Option.bind_some _ _).symm.trans H; with_reducible exact H2_) | with_reducible exact H | (rw [hy251]; exact H) | exact H
     have Ny251 := Aside0.mk hy251
     clear hy251
     have H' := Aside0.mk H
     clear H
     go_enter Tryd.func67, Tryd.ntmps67
     go_wp2_with (first | ((with_reducible refine gate_dst (N := 3) rfl ?_); refine box_event ?hg (N := 3) ?hd (cs := #[.int .i64 a0_0, .slice A0_1 l0_1.length c0_1, .slice A0_2 l0_2.length c0_2]) (t := 25) ?hr ?_; (case hd => rfl); (case hg => rfl); (case hr => first | (go_simp; done) | (go_simp; rfl)); intro gb247 hg w9 hbox hb; have BK247 := Aside0.mk (hbox); have GW247 := bsz (w := w) hg; have GE247 := GW247; replace HB := Aside0.mk (below_step bel hb); clear hb hbox hg; have hcz10_0 := blkc BK247.out 0 (.int .i64 a0_0) rfl; have hcz10_1 := blkc BK247.out 1 (.slice A0_1 l0_1.length c0_1) rfl; have hcz10_2 := blkc BK247.out 2 (.slice A0_2 l0_2.length c0_2) rfl) | ((with_reducible refine gate_dst (N := 13) rfl ?_); refine Kd.R_make Kd.bool _ 4 rfl (N := 13) rfl 92 _ _ rfl a0_0 rfl rfl Tryd.underlying92 (.bool false) 1 info4 rfl (by decide) (by omega) false (ok := fun _ => True) (okp := fun _ => True) rfl (fun _ hk => hk) trivial (of_decide_eq_true asz) (Nat.le_trans (Nat.mul_le_mul_right _ (of_decide_eq_true asz : a0_0.toNat ≤ 281474976710656)) (by omega)) (Below.refl _ _) (Nat.le_refl _) ?_; intro v249 w11 ho12 hb hg_ hnew_; clear hg_ hnew_; (first | rw [← Ny248.out] at ho12 | (simp only [Int.reduceToNat] at ho12; rw [← Ny248.out] at ho12)); have HO250 := Aside0.mk (Kd.R_lower ho12 (below_size bel)); replace BK247 := Aside0.mk (blk_below (g := gb247) blkz hb); replace HB := Aside0.mk (below_step bel hb); clear hb ho12; have p8 : 0 ≤ (a2 : Int) := of_decide_eq_true asz; have q8 : (a2 : Int) < ((y248.length : Int) : Int) := of_decide_eq_true asz; obtain ⟨go8, co8, eo8, gb8, gl8, cl8, HG8⟩ := Kd.R_form HO250.out (by omega); (first | cases eo8 | (injection eo8 with ea_ en_ ec_; (first | subst ea_ | (injection ea_ with ea_; subst ea_)); subst ec_; clear en_)); have GB8 := Aside0.mk gb8; have GG8 := Aside0.mk HG8; clear gb8 gl8 HG8; obtain ⟨hx8_0, hf8_0⟩ := Kd.R_celln false HO250.out (a2 : Int) p8 q8; replace p8 := eq_true p8; replace q8 := eq_true q8; obtain ⟨hy13_, hz13_⟩ := Kd.R_celln false HO250.out (a2 : Int) (of_decide_eq_true asz) (of_decide_eq_true asz); have HP13 := Kd.R_putg HO250.out (a2 : Int) true) | ((with_reducible refine gate_store (t := 4) (p := 16) rfl ?_); refine store_event (t := 4) (p := 16) (v := ?vo_w14) (w1 := (w11.setCell ⟨go8, (a2 : Int).toNat, none⟩ (.bool true))) ?hg ?ho ?hn ?hr ?_; (case ho => rfl); (case hg => rfl); (case hn => rfl); (case hr => first | (go_simp; done) | (go_simp; rfl)); intro w14 hw; have hg : w11.grownBy w14 (some go8) := (by rw [hw]; exact HP13.2); have hp_ : Kd.R Kd.bool 4 w14 w.heap.size (fun _ => True) (.slice (some ⟨go8, 0, none⟩) y248.length co8) y251 := (by rw [hw, Ny251.out]; exact HP13.1); clear HP13; replace BK247 := Aside0.mk (blk_grown (g := gb247) (o := .cells #[.int .i64 a0_0, .slice A0_1 l0_1.length c0_1, .slice A0_2 l0_2.length c0_2] 25 (0, 0)) blkz hg (Kd.R_ne HO250.out BK247.out (by decide))); replace HO250 := Aside0.mk (hp_); replace HB := Aside0.mk ((by rw [hw]; exact below_set (HB.out) GB8.out : Below w.heap.size w w14)); clear hg hw hp_))
     go_loopg [8] k (fun kq v8 w' => ∃ (x7_1 : List Bool) (x8_1 : Bool), v8 = .bool x8_1 ∧ Aside0 (dropperref05_from.l0 kq a1 x7_1 x8_1 a0_0 l0_1 l0_2 = some r) ∧ Aside0 (kq ≤ k) ∧ Aside0 (Kd.R Kd.bool 4 w' w.heap.size (fun _ => True) (.slice (some ⟨go8, 0, none⟩) y248.length co8) x7_1) ∧ Aside0 (w'.heap[gb247]? = some (.cells #[.int .i64 a0_0, (.slice A0_1 l0_1.length c0_1), (.slice A0_2 l0_2.length c0_2)] 25 (0, 0))) ∧ Aside0 (Below w.heap.size w w'))
     case atStart => exact ⟨(y251), (true), rsz, H', ⟨Nat.le_refl _⟩, ⟨by (with_reducible repeat (first | apply Kd.R_alloc | apply Kd.R_drewN | apply Kd.R_drew)); exact HO250.out⟩, ⟨blkz⟩, ⟨bel⟩⟩
     case round =>
      clear H'
      try clear p2
      try clear c4
      try clear c4b0
      try clear c4b1
      try clear c5
      try clear c5b0
      try clear c5b1
      try clear c6
      try clear c6b0
      try clear c7
      try clear c7b0
      try clear p8
      try clear q8
      try clear hx8
      try clear hf8
      try clear hcz10_0
      try clear hcz10_1
      try clear hcz10_2
      try clear hfz10_0
      try clear hfz10_1
      try clear hfz10_2
      try clear hx8_0
      try clear p8
      try clear q8
      obtain ⟨x7_1, x8_1, rfl, HA, HK1, HO_7, BK247, HB⟩ := hrel
      have hl7_1 := (Kd.R_reads' HO_7.out).1
      rw [hl7_1] at HO_7
      (try simp only [hl7_1])
      (try simp only [hl7_1] at BK247)
      cases gk with
      | zero => exact absurd HA.out (by simp [dropperref05_from.l0])
      | succ k1 =>
       have H := HA.out
       clear HA
       simp only [dropperref05_from.l0] at H
       by_cases c15 : x8_1 = true
       ·
        subst c15
        have H1 : (dropperref05_from.l1 k1 a1 x7_1 false 0 a0_0 l0_1 l0_2) = some r := by rw [if_pos rfl] at H; exact H
        clear H
        have H := H1
        clear H1
        have H' := Aside0.mk H
        clear H
        go_wp2
        go_loopg [8, 9] k1 (fun kq v8 v9 w' => ∃ (x7_2 : List Bool) (x8_2 : Bool) (x9_2 : Int), v8 = .bool x8_2 ∧ v9 = .int .i64 x9_2 ∧ Aside0 (dropperref05_from.l1 kq a1 x7_2 x8_2 x9_2 a0_0 l0_1 l0_2 = some r) ∧ Aside0 (kq ≤ k1) ∧ Aside0 (Kd.R Kd.bool 4 w' w.heap.size (fun _ => True) (.slice (some ⟨go8, 0, none⟩) x7_1.length co8) x7_2) ∧ Aside0 (w'.heap[gb247]? = some (.cells #[.int .i64 a0_0, (.slice A0_1 l0_1.length c0_1), (.slice A0_2 l0_2.length c0_2)] 25 (0, 0))) ∧ Aside0 (Below w.heap.size w w'))
        case atStart => exact ⟨(x7_1), (false), (0), rsz, rsz, H', ⟨Nat.le_refl _⟩, ⟨by (try simp only [hl7_1]); (with_reducible repeat (first | apply Kd.R_alloc | apply Kd.R_drewN | apply Kd.R_drew)); exact HO_7.out⟩, ⟨by (try simp only [hl7_1]); (with_reducible repeat (first | refine blk_drewN ?_ _ | refine blk_drew ?_ | refine blk_alloc ?_ _)); exact BK247.out⟩, ⟨bel⟩⟩
        case round =>
         clear H'
         try clear c1
         try clear p2
         try clear c4
         try clear c4b0
         try clear c4b1
         try clear c5
         try clear c5b0
         try clear c5b1
         try clear c6
         try clear c6b0
         try clear c7
         try clear c7b0
         try clear p8
         try clear q8
         try clear hx8
         try clear hf8
         try clear c15
         try clear hcz10_0
         try clear hcz10_1
         try clear hcz10_2
         try clear hfz10_0
         try clear hfz10_1
         try clear hfz10_2
         try clear hx8_0
         try clear p2
         try clear p8
         try clear q8
         obtain ⟨x7_2, x8_2, x9_2, rfl, rfl, HA, HK2, HO_7, BK247, HB⟩ := hrel
         have hl7_2 := (Kd.R_reads' HO_7.out).1
         rw [hl7_2] at HO_7
         (try simp only [hl7_2])
         (try simp only [hl7_2] at BK247)
         cases gk with
         | zero => exact absurd HA.out (by simp [dropperref05_from.l1])
         | succ k2 =>
          have H := HA.out
          clear HA
          simp only [dropperref05_from.l1] at H
          by_cases c16 : x9_2 < (l0_1.length : Int)
          ·
           rw [if_pos c16] at H
           have c16b0 : decide (x9_2 < (l0_1.length : Int)) = true := decide_eq_true c16
           try (have c16b0hl7_1 := c16b0; simp only [hl7_1] at c16b0hl7_1)
           try (have c16b0hl7_2 := c16b0; simp only [hl7_2] at c16b0hl7_2)
           clear c16
           by_cases c17 : 0 ≤ x9_2
           ·
            rw [if_pos c17] at H
            have c17b0 : decide (0 ≤ x9_2) = true := decide_eq_true c17
            clear c17
            replace H := Option.bind_eq_some_iff.mp H
            obtain ⟨t254, A180, H⟩ := H
            replace H : (if t254 = true then (if 0 ≤ ((rd_T69 l0_1 x9_2).f0) then (if ((rd_T69 l0_1 x9_2).f0) < (x7_2.length : Int) then (if 0 ≤ ((rd_T69 l0_1 x9_2).f1) then (if ((rd_T69 l0_1 x9_2).f1) < (x7_2.length : Int) then (if ((rdOf false x7_2 ((rd_T69 l0_1 x9_2).f0)) != (rdOf false x7_2 ((rd_T69 l0_1 x9_2).f1))) = true then (dropperref05_from.l1 k2 a1 ((x7_2.set (((rd_T69 l0_1 x9_2).f0) : Int).toNat true).set (((rd_T69 l0_1 x9_2).f1) : Int).toNat true) true (wrap64 (x9_2 + 1)) a0_0 l0_1 l0_2) else (dropperref05_from.l1 k2 a1 x7_2 x8_2 (wrap64 (x9_2 + 1)) a0_0 l0_1 l0_2)) else (none)) else (none)) else (none)) else (none)) else (dropperref05_from.l1 k2 a1 x7_2 x8_2 (wrap64 (x9_2 + 1)) a0_0 l0_1 l0_2)) = some r := H
            have A18 := Aside0.mk A180
            clear A180
            by_cases c19 : t254 = true
            ·
             subst c19
             have H1 : (if 0 ≤ ((rd_T69 l0_1 x9_2).f0) then (if ((rd_T69 l0_1 x9_2).f0) < (x7_2.length : Int) then (if 0 ≤ ((rd_T69 l0_1 x9_2).f1) then (if ((rd_T69 l0_1 x9_2).f1) < (x7_2.length : Int) then (if ((rdOf false x7_2 ((rd_T69 l0_1 x9_2).f0)) != (rdOf false x7_2 ((rd_T69 l0_1 x9_2).f1))) = true then (dropperref05_from.l1 k2 a1 ((x7_2.set (((rd_T69 l0_1 x9_2).f0) : Int).toNat true).set (((rd_T69 l0_1 x9_2).f1) : Int).toNat true) true (wrap64 (x9_2 + 1)) a0_0 l0_1 l0_2) else (dropperref05_from.l1 k2 a1 x7_2 x8_2 (wrap64 (x9_2 + 1)) a0_0 l0_1 l0_2)) else (none)) else (none)) else (none)) else (none)) = some r := by rw [if_pos rfl] at H; exact H
             clear H
             have H := H1
             clear H1
             by_cases c20 : 0 ≤ ((rd_T69 l0_1 x9_2).f0)
             ·
              rw [if_pos c20] at H
              have c20b0 : decide (0 ≤ ((rd_T69 l0_1 x9_2).f0)) = true := decide_eq_true c20
              clear c20
              by_cases c21 : ((rd_T69 l0_1 x9_2).f0) < (x7_2.length : Int)
              ·
               rw [if_pos c21] at H
               have c21b0 : decide (((rd_T69 l0_1 x9_2).f0) < (x7_2.length : Int)) = true := decide_eq_true c21
               try (have c21b0hl7_1 := c21b0; simp only [hl7_1] at c21b0hl7_1)
               try (have c21b0hl7_2 := c21b0; simp only [hl7_2] at c21b0hl7_2)
               clear c21
               by_cases c22 : 0 ≤ ((rd_T69 l0_1 x9_2).f1)
               ·
                rw [if_pos c22] at H
                have c22b0 : decide (0 ≤ ((rd_T69 l0_1 x9_2).f1)) = true := decide_eq_true c22
                clear c22
                by_cases c23 : ((rd_T69 l0_1 x9_2).f1) < (x7_2.length : Int)
                ·
                 rw [if_pos c23] at H
                 have c23b0 : decide (((rd_T69 l0_1 x9_2).f1) < (x7_2.length : Int)) = true := decide_eq_true c23
                 try (have c23b0hl7_1 := c23b0; simp only [hl7_1] at c23b0hl7_1)
                 try (have c23b0hl7_2 := c23b0; simp only [hl7_2] at c23b0hl7_2)
                 clear c23
                 by_cases c24 : ((rdOf false x7_2 ((rd_T69 l0_1 x9_2).f0)) != (rdOf false x7_2 ((rd_T69 l0_1 x9_2).f1))) = true
                 ·
                  rw [if_pos c24] at H
                  have c24b0 : ((rdOf false x7_2 ((rd_T69 l0_1 x9_2).f0)) != (rdOf false x7_2 ((rd_T69 l0_1 x9_2).f1))) = true := c24
                  (try (have c24b1 : decide ((rdOf false x7_2 ((rd_T69 l0_1 x9_2).f0)) = (rdOf false x7_2 ((rd_T69 l0_1 x9_2).f1))) = false := by simpa using c24))
                  (try (have c24b2 : ((rdOf false x7_2 ((rd_T69 l0_1 x9_2).f0)) == (rdOf false x7_2 ((rd_T69 l0_1 x9_2).f1))) = false := by simpa using c24))
                  (try (have c24b3 : ¬ ((rdOf false x7_2 ((rd_T69 l0_1 x9_2).f0)) = (rdOf false x7_2 ((rd_T69 l0_1 x9_2).f1))) := by simpa using c24))
                  clear c24
                  obtain ⟨y257, hy257⟩ : ∃ y_ : List Bool, y_ = (x7_2.set (((rd_T69 l0_1 x9_2).f0) : Int).toNat true) := ⟨_, rfl⟩
                  replace H : (dropperref05_from.l1 k2 a1 (y257.set (((rd_T69 l0_1 x9_2).f1) : Int).toNat true) true (wrap64 (x9_2 + 1)) a0_0 l0_1 l0_2) = some r := by first | (rw [hy257]; with_reducible exact H) | (have H2_ := (Option.bind_some _ _).symm.trans H; rw [hy257]; with_reducible exact H2_) | (have H2_ := (Option.bind_some _ _).symm.trans H; with_reducible exact H2_) | with_reducible exact H | (rw [hy257]; exact H) | exact H
                  have Ny257 := Aside0.mk hy257
                  clear hy257
                  obtain ⟨y258, hy258⟩ : ∃ y_ : List Bool, y_ = (y257.set (((rd_T69 l0_1 x9_2).f1) : Int).toNat true) := ⟨_, rfl⟩
                  replace H : (dropperref05_from.l1 k2 a1 y258 true (wrap64 (x9_2 + 1)) a0_0 l0_1 l0_2) = some r := by first | (rw [hy258]; with_reducible exact H) | (have H2_ := (Option.bind_some _ _).symm.trans H; rw [hy258]; with_reducible exact H2_) | (have H2_ := (Option.bind_some _ _).symm.trans H; with_reducible exact H2_) | with_reducible exact H | (rw [hy258]; exact H) | exact H
                  have Ny258 := Aside0.mk hy258
                  clear hy258
                  have H' := Aside0.mk H
                  clear H
                  have hcz27_0 := blkc BK247.out 0 (.int .i64 a0_0) rfl
                  have hcz27_1 := blkc BK247.out 1 (.slice A0_1 l0_1.length c0_1) rfl
                  have hcz27_2 := blkc BK247.out 2 (.slice A0_2 l0_2.length c0_2) rfl
                  have hfz27_0 := blk_frozen BK247.out 0
                  have hfz27_1 := blk_frozen BK247.out 1
                  have hfz27_2 := blk_frozen BK247.out 2
                  have p252 : 0 ≤ (x9_2 : Int) := of_decide_eq_true asz
                  have q252 : x9_2 < (l0_1.length : Int) := of_decide_eq_true asz
                  obtain ⟨ad252, e252, hx252_0, hx252_1⟩ := at_T69 HR0_1.out x9_2 p252 q252
                  cases e252
                  replace hx252_0 := (HB.out.cell (World.block_lt_of_cell? w _ hx252_0)).trans hx252_0
                  replace hx252_1 := (HB.out.cell (World.block_lt_of_cell? w _ hx252_1)).trans hx252_1
                  replace p252 := eq_true p252
                  replace q252 := eq_true q252
                  try go_wp2_with (first | ((with_reducible refine gate_dst (N := 10) rfl ?_); refine box_event ?hg (N := 10) ?hd (cs := #[.int .i64 0, .int .i64 0]) (t := 69) ?hr ?_; (case hd => rfl); (case hg => rfl); (case hr => first | (go_simp; done) | (go_simp; rfl)); intro gb253 hg w28 hbox hb; have BK253 := Aside0.mk (hbox); have GW253 := bsz (w := w) hg; have GE253 := GW253; have NB247_253 := neL (g := gb247) hg; have NB253_247 := neR (g := gb247) hg; replace HO_7 := Aside0.mk (Kd.R_below (ownx HO_7) hb); replace BK247 := Aside0.mk (blk_below (g := gb247) blkz hb); replace HB := Aside0.mk (below_step bel hb); clear hb hbox hg; have hnb29 := NB253_247.out; have hnc29 := NB247_253.out; have hcz30_0 := blkc BK253.out 0 (.int .i64 0) rfl; have hcz30_1 := blkc BK253.out 1 (.int .i64 0) rfl; have hfz30_0 := blk_frozen BK253.out 0; have hfz30_1 := blk_frozen BK253.out 1))
                  have n0_ : Aside0 (Kd.R Kd.bool 4 ((w28.setCell ⟨gb253, 0, none⟩ (.int .i64 ((rd_T69 l0_1 x9_2).f0))).setCell ⟨gb253, 1, none⟩ (.int .i64 ((rd_T69 l0_1 x9_2).f1))) w.heap.size (fun _ => True) (.slice (some ⟨go8, 0, none⟩) x7_2.length co8) x7_2) := ⟨by (with_reducible repeat (first | apply Kd.R_alloc | apply Kd.R_drewN | apply Kd.R_drew)); exact Kd.R_mono (Kd.R_far (p := ⟨gb253, 1, none⟩) (Kd.R_far (p := ⟨gb253, 0, none⟩) (Kd.R_types HO_7.out BK253.out (by decide)) (fun _ hk => hk.2) (.int .i64 ((rd_T69 l0_1 x9_2).f0))) (fun _ hk => hk.2) (.int .i64 ((rd_T69 l0_1 x9_2).f1))) (fun _ hk => trivial)⟩
                  have n1_ : Aside0 (((w28.setCell ⟨gb253, 0, none⟩ (.int .i64 ((rd_T69 l0_1 x9_2).f0))).setCell ⟨gb253, 1, none⟩ (.int .i64 ((rd_T69 l0_1 x9_2).f1))).heap[gb247]? = some (.cells #[.int .i64 a0_0, .slice (some ad252) l0_1.length c0_1, .slice A0_2 l0_2.length c0_2] 25 (0, 0))) := ⟨by (with_reducible repeat (first | refine blk_drewN ?_ _ | refine blk_drew ?_ | refine blk_alloc ?_ _)); refine blk_far ?_ NB247_253.out _; (with_reducible repeat (first | refine blk_drewN ?_ _ | refine blk_drew ?_ | refine blk_alloc ?_ _)); refine blk_far ?_ NB247_253.out _; (with_reducible repeat (first | refine blk_drewN ?_ _ | refine blk_drew ?_ | refine blk_alloc ?_ _)); exact BK247.out⟩
                  have n2_ : Aside0 (((w28.setCell ⟨gb253, 0, none⟩ (.int .i64 ((rd_T69 l0_1 x9_2).f0))).setCell ⟨gb253, 1, none⟩ (.int .i64 ((rd_T69 l0_1 x9_2).f1))).heap[gb253]? = some (.cells #[.int .i64 ((rd_T69 l0_1 x9_2).f0), .int .i64 ((rd_T69 l0_1 x9_2).f1)] 69 (0, 0))) := ⟨by (with_reducible repeat (first | refine blk_drewN ?_ _ | refine blk_drew ?_ | refine blk_alloc ?_ _)); refine blk_put (cs := #[.int .i64 ((rd_T69 l0_1 x9_2).f0), .int .i64 0]) ?_ 1 _ rfl; (with_reducible repeat (first | refine blk_drewN ?_ _ | refine blk_drew ?_ | refine blk_alloc ?_ _)); refine blk_put (cs := #[.int .i64 0, .int .i64 0]) ?_ 0 _ rfl; (with_reducible repeat (first | refine blk_drewN ?_ _ | refine blk_drew ?_ | refine blk_alloc ?_ _)); exact BK253.out⟩
                  have n3_ : Aside0 (Below w.heap.size w ((w28.setCell ⟨gb253, 0, none⟩ (.int .i64 ((rd_T69 l0_1 x9_2).f0))).setCell ⟨gb253, 1, none⟩ (.int .i64 ((rd_T69 l0_1 x9_2).f1)))) := ⟨bel⟩
                  (try clear HO_7)
                  (try clear BK247)
                  (try clear BK253)
                  (try clear HB)
                  generalize ((w28.setCell ⟨gb253, 0, none⟩ (.int .i64 ((rd_T69 l0_1 x9_2).f0))).setCell ⟨gb253, 1, none⟩ (.int .i64 ((rd_T69 l0_1 x9_2).f1))) = w31 at n0_ n1_ n2_ n3_ ⊢
                  have HO_7 := n0_
                  have BK247 := n1_
                  have BK253 := n2_
                  have HB := n3_
                  clear n0_ n1_ n2_ n3_
                  have n0_ := Aside0.mk (Kd.R_drew HO_7.out)
                  have n1_ := Aside0.mk (blk_drew BK247.out)
                  have n2_ := Aside0.mk (blk_drew BK253.out)
                  have n3_ := Aside0.mk (below_drew1 HB.out)
                  clear HO_7
                  clear BK247
                  clear BK253
                  clear HB
                  have HO_7 := n0_
                  have BK247 := n1_
                  have BK253 := n2_
                  have HB := n3_
                  clear n0_ n1_ n2_ n3_
                  have p255 : 0 ≤ (((rd_T69 l0_1 x9_2).f0) : Int) := of_decide_eq_true asz
                  have q255 : ((rd_T69 l0_1 x9_2).f0) < (x7_2.length : Int) := of_decide_eq_true asz
                  obtain ⟨ad255, e255, hx255_0⟩ := Kd.at_bool (Kd.R_reads' HO_7.out).2.2 ((rd_T69 l0_1 x9_2).f0) p255 q255
                  obtain rfl : (⟨go8, 0, none⟩ : Addr) = ad255 := (by injection e255)
                  (first | simp only [add_plain] at hx255_0 | simp only [add_at] at hx255_0 | simp only [Addr.add, Nat.zero_add] at hx255_0 | skip)
                  replace p255 := eq_true p255
                  replace q255 := eq_true q255
                  have p256 : 0 ≤ (((rd_T69 l0_1 x9_2).f1) : Int) := of_decide_eq_true asz
                  have q256 : ((rd_T69 l0_1 x9_2).f1) < (x7_2.length : Int) := of_decide_eq_true asz
                  obtain ⟨ad256, e256, hx256_0⟩ := Kd.at_bool (Kd.R_reads' HO_7.out).2.2 ((rd_T69 l0_1 x9_2).f1) p256 q256
                  obtain rfl : (⟨go8, 0, none⟩ : Addr) = ad256 := (by injection e256)
                  (first | simp only [add_plain] at hx256_0 | simp only [add_at] at hx256_0 | simp only [Addr.add, Nat.zero_add] at hx256_0 | skip)
                  replace p256 := eq_true p256
                  replace q256 := eq_true q256
                  refine start_ (n := 16) (S := fun w' => w'.cell? ⟨gb253, 0, none⟩ = some (.int .i64 ((rd_T69 l0_1 x9_2).f0)) ∧ w'.cell? ⟨gb253, 1, none⟩ = some (.int .i64 ((rd_T69 l0_1 x9_2).f1)) ∧ w'.cell? ⟨go8, (((rd_T69 l0_1 x9_2).f0)).toNat, none⟩ = some (.bool (rdOf false x7_2 ((rd_T69 l0_1 x9_2).f0))) ∧ w'.cell? ⟨go8, (((rd_T69 l0_1 x9_2).f1)).toNat, none⟩ = some (.bool (rdOf false x7_2 ((rd_T69 l0_1 x9_2).f1)))) (ds := []) #[false, false, false, false, false, false, false, false, false, false, false, false, false, false, false, false] (by kernel_rfl) rfl rfl ⟨(blk_cell BK253.out 0).trans rfl, (blk_cell BK253.out 1).trans rfl, hx255_0, hx256_0⟩ (fun hHeld => ?_); refine with_tabW dropperref05_from.tab10 dropperref05_from.bits10 (fun HT_ HW_ => ?_)
                  generalize w31.drew = w32 at HO_7 BK247 BK253 HB hx255_0 hx256_0 hHeld ⊢
                  refine pst (i := 0) (N := some 30) (bz 16 1) (any_of HT_.out (by kernel_rfl)) ?_
                  refine pst (i := 1) (N := some 31) (bz 16 3) (any_of HT_.out (by kernel_rfl)) ?_
                  refine one_ (i := 2) (N := some 32) #[true, true, true, false, false, false, false, false, false, false, false, false, false, false, false, false] rfl rfl (one_of HT_.out (by kernel_rfl)) (by decide) (fun K hK => ?_)
                  refine goes_ Tryd.func61 (by kernel_rfl) rfl #[.int .i64 a1, .int .i64 x9_2] (by rfl) rfl rfl mapz ?_
                  with_reducible refine (dropperref05_closed.calls a1 x9_2 true _ A18.out).mono ?_
                  rintro e w' ⟨rfl, ⟨nd, rfl⟩⟩
                  refine ⟨_, rfl, ?_⟩
                  refine hK.out _ _ ⟨(blk_cell BK253.out 0).trans rfl, (blk_cell BK253.out 1).trans rfl, hHeld.2.2.1, hHeld.2.2.2⟩ (fun hHeld => ?_)
                  clear hK K
                  refine norm_ (a' := ?_) ?_ ?_
                  rotate_left
                  ·
                   show Act.put _ (some 32) _ = _
                   simp only [Act.put, List.setIfInBounds_toArray, List.set_cons_zero, List.set_cons_succ, i64_w, i32_w]
                   rfl
                  refine pst (i := 3) (N := some 33) (bz 16 15) (any_of HT_.out (by kernel_rfl)) ?_
                  refine pst (i := 4) (N := some 34) (bz 16 31) (any_of HT_.out (by kernel_rfl)) ?_
                  refine pst (i := 5) (N := some 35) (bz 16 63) (any_of HT_.out (by kernel_rfl)) ?_
                  refine pst (i := 9) (N := some 39) (bz 16 575) (any_of HT_.out (by kernel_rfl)) ?_
                  refine pst (i := 10) (N := some 40) (bz 16 1599) (any_of HT_.out (by kernel_rfl)) ?_
                  refine tst4 (i := 6) (N := some 36) (bz 16 1663) (take_ofW HT_.out HW_.out (by kernel_rfl)) hHeld ?_
                  refine pst (i := 7) (N := some 37) (bz 16 1791) (any_of HT_.out (by kernel_rfl)) ?_
                  refine tst4 (i := 8) (N := some 38) (bz 16 2047) (take_ofW HT_.out HW_.out (by kernel_rfl)) hHeld ?_
                  refine tst4 (i := 11) (N := some 41) (bz 16 4095) (take_ofW HT_.out HW_.out (by kernel_rfl)) hHeld ?_
                  refine pst (i := 12) (N := some 42) (bz 16 8191) (any_of HT_.out (by kernel_rfl)) ?_
                  refine tst4 (i := 13) (N := some 43) (bz 16 16383) (take_ofW HT_.out HW_.out (by kernel_rfl)) hHeld ?_
                  refine pst (i := 14) (N := some 44) (bz 16 32767) (any_of HT_.out (by kernel_rfl)) ?_
                  refine pst (i := 15) (N := some 45) (bz 16 65535) (any_of HT_.out (by kernel_rfl)) ?_
                  refine done_ (done_of HT_.out (by kernel_rfl)) ?_
                  try go_wp2
                  (try (rw [drewN_self w32]; generalize hq_ : World.drewN w32 _ = w32; have n0_ : Aside0 (Kd.R Kd.bool 4 w32 w.heap.size (fun _ => True) (.slice (some ⟨go8, 0, none⟩) x7_2.length co8) x7_2) := ⟨by rw [← hq_]; exact (ownx HO_7)⟩; have n1_ : Aside0 (w32.heap[gb247]? = some (.cells #[.int .i64 a0_0, .slice (some ad252) l0_1.length c0_1, .slice A0_2 l0_2.length c0_2] 25 (0, 0))) := ⟨by rw [← hq_]; exact blkz⟩; have n2_ : Aside0 (w32.heap[gb253]? = some (.cells #[.int .i64 ((rd_T69 l0_1 x9_2).f0), .int .i64 ((rd_T69 l0_1 x9_2).f1)] 69 (0, 0))) := ⟨by rw [← hq_]; exact blkz⟩; have n3_ : Aside0 (Below w.heap.size w w32) := ⟨by rw [← hq_]; exact bel⟩; clear HO_7 BK247 BK253 HB hq_; have HO_7 := n0_; have BK247 := n1_; have BK253 := n2_; have HB := n3_; clear n0_ n1_ n2_ n3_))
                  have n0_ := Aside0.mk (Kd.R_drew HO_7.out)
                  have n1_ := Aside0.mk (blk_drew BK247.out)
                  have n2_ := Aside0.mk (blk_drew BK253.out)
                  have n3_ := Aside0.mk (below_drew1 HB.out)
                  clear HO_7
                  clear BK247
                  clear BK253
                  clear HB
                  have HO_7 := n0_
                  have BK247 := n1_
                  have BK253 := n2_
                  have HB := n3_
                  clear n0_ n1_ n2_ n3_
                  have p25 : 0 ≤ (((rd_T69 l0_1 x9_2).f0) : Int) := of_decide_eq_true asz
                  have q25 : (((rd_T69 l0_1 x9_2).f0) : Int) < ((x7_2.length : Int) : Int) := of_decide_eq_true asz
                  obtain ⟨hx25_0, hf25_0⟩ := Kd.R_celln false HO_7.out (((rd_T69 l0_1 x9_2).f0) : Int) p25 q25
                  replace p25 := eq_true p25
                  replace q25 := eq_true q25
                  have HP34 := Kd.R_putn HO_7.out (((rd_T69 l0_1 x9_2).f0) : Int) true
                  rw [← Ny257.out] at HP34
                  have HQ34 := Aside0.mk HP34
                  clear HP34
                  have p26 : 0 ≤ (((rd_T69 l0_1 x9_2).f1) : Int) := of_decide_eq_true asz
                  have q26 : (((rd_T69 l0_1 x9_2).f1) : Int) < ((x7_2.length : Int) : Int) := of_decide_eq_true asz
                  obtain ⟨hx26_0, hf26_0⟩ := Kd.R_celln false HQ34.out (((rd_T69 l0_1 x9_2).f1) : Int) p26 q26
                  replace p26 := eq_true p26
                  replace q26 := eq_true q26
                  have HP35 := Kd.R_putn HQ34.out (((rd_T69 l0_1 x9_2).f1) : Int) true
                  rw [← Ny258.out] at HP35
                  have HQ35 := Aside0.mk HP35
                  clear HP35
                  refine start_ (n := 11) (S := fun w' => w'.cell? ⟨gb253, 0, none⟩ = some (.int .i64 ((rd_T69 l0_1 x9_2).f0)) ∧ w'.cell? ⟨gb253, 1, none⟩ = some (.int .i64 ((rd_T69 l0_1 x9_2).f1))) (ds := []) #[false, false, false, false, false, false, false, false, false, false, false] (by kernel_rfl) rfl rfl ⟨(blk_cell BK253.out 0).trans rfl, (blk_cell BK253.out 1).trans rfl⟩ (fun hHeld => ?_); refine with_tabW dropperref05_from.tab11 dropperref05_from.bits11 (fun HT_ HW_ => ?_)
                  generalize w32.drew = w33 at HO_7 BK247 BK253 HB HQ34 HQ35 hf25_0 hf26_0 hx25_0 hx26_0 hHeld ⊢
                  refine pst (i := 0) (N := some 46) (bz 11 1) (any_of HT_.out (by kernel_rfl)) ?_
                  refine pst (i := 1) (N := some 47) (bz 11 3) (any_of HT_.out (by kernel_rfl)) ?_
                  refine pst (i := 3) (N := some 49) (bz 11 11) (any_of HT_.out (by kernel_rfl)) ?_
                  refine pst (i := 4) (N := some 50) (bz 11 27) (any_of HT_.out (by kernel_rfl)) ?_
                  refine tst2 (i := 2) (N := some 48) (bz 11 31) (take_ofW HT_.out HW_.out (by kernel_rfl)) hHeld ?_
                  refine pst (i := 6) (N := some 52) (bz 11 95) (any_of HT_.out (by kernel_rfl)) ?_
                  refine tst2 (i := 5) (N := some 51) (bz 11 127) (take_ofW HT_.out HW_.out (by kernel_rfl)) hHeld ?_
                  refine one_ (i := 7) (N := none) #[true, true, true, true, true, true, true, true, false, false, false] rfl rfl (one_of HT_.out (by kernel_rfl)) (by decide) (fun K hK => ?_)
                  refine skip_ (w1 := ?_) (by rfl) rfl ?_ ?_
                  rotate_left
                  ·
                   go_simp
                   rfl
                  refine hK.out _ _ ⟨((cell_far (p := ⟨go8, _, none⟩) (fun e_ => (Kd.R_ne HO_7.out BK253.out (by decide)) (by have h_ : gb253 = go8 := e_; rw [h_]; rfl)) _).trans (hHeld.1)), ((cell_far (p := ⟨go8, _, none⟩) (fun e_ => (Kd.R_ne HO_7.out BK253.out (by decide)) (by have h_ : gb253 = go8 := e_; rw [h_]; rfl)) _).trans (hHeld.2))⟩ (fun hHeld => ?_)
                  clear hK K
                  refine pst (i := 8) (N := some 53) (bz 11 511) (any_of HT_.out (by kernel_rfl)) ?_
                  refine one_ (i := 9) (N := none) #[true, true, true, true, true, true, true, true, true, true, false] rfl rfl (one_of HT_.out (by kernel_rfl)) (by decide) (fun K hK => ?_)
                  refine skip_ (w1 := ?_) (by rfl) rfl ?_ ?_
                  rotate_left
                  ·
                   go_simp
                   rfl
                  refine hK.out _ _ ⟨((cell_far (p := ⟨go8, _, none⟩) (fun e_ => (Kd.R_ne HO_7.out BK253.out (by decide)) (by have h_ : gb253 = go8 := e_; rw [h_]; rfl)) _).trans (hHeld.1)), ((cell_far (p := ⟨go8, _, none⟩) (fun e_ => (Kd.R_ne HO_7.out BK253.out (by decide)) (by have h_ : gb253 = go8 := e_; rw [h_]; rfl)) _).trans (hHeld.2))⟩ (fun hHeld => ?_)
                  clear hK K
                  refine pst (i := 10) (N := some 8) (bz 11 2047) (any_of HT_.out (by kernel_rfl)) ?_
                  refine done_ (done_of HT_.out (by kernel_rfl)) ?_
                  try go_wp2
                  (try simp only [← hl7_2])
                  go_roundg k2
                  case measure => have := HK1.out; have := HK2.out; omega
                  case rel => exact ⟨(y258), (true), (wrap64 (x9_2 + 1)), rsz, rsz, H', ⟨by have := HK1.out; have := HK2.out; omega⟩, ⟨by (try simp only [hl7_1]); (try simp only [hl7_2]); (with_reducible repeat (first | apply Kd.R_alloc | apply Kd.R_drewN | apply Kd.R_drew)); exact HQ35.out⟩, ⟨by (try simp only [hl7_1]); (try simp only [hl7_2]); (with_reducible repeat (first | refine blk_drewN ?_ _ | refine blk_drew ?_ | refine blk_alloc ?_ _)); refine blk_far ?_ (by have h_ := Kd.R_ne HO_7.out BK247.out (by decide); intro e_; exact h_ (by rw [e_]; rfl)) _; (with_reducible repeat (first | refine blk_drewN ?_ _ | refine blk_drew ?_ | refine blk_alloc ?_ _)); refine blk_far ?_ (by have h_ := Kd.R_ne HO_7.out BK247.out (by decide); intro e_; exact h_ (by rw [e_]; rfl)) _; (with_reducible repeat (first | refine blk_drewN ?_ _ | refine blk_drew ?_ | refine blk_alloc ?_ _)); exact BK247.out⟩, ⟨by repeat (first | (with_reducible first | exact HB.out | apply below_alloc | apply pw_below_drewN | apply below_drew1 | refine below_set ?_ GB8.out | refine below_set ?_ GB8.out | refine below_set ?_ GE247.out | refine below_set ?_ GE253.out) | exact HB.out)⟩⟩
                 ·
                  rw [if_neg c24] at H
                  have c24b0 : ((rdOf false x7_2 ((rd_T69 l0_1 x9_2).f0)) != (rdOf false x7_2 ((rd_T69 l0_1 x9_2).f1))) = false := by simpa using c24
                  (try (have c24b1 : decide ((rdOf false x7_2 ((rd_T69 l0_1 x9_2).f0)) = (rdOf false x7_2 ((rd_T69 l0_1 x9_2).f1))) = true := by simpa using c24))
                  (try (have c24b2 : ((rdOf false x7_2 ((rd_T69 l0_1 x9_2).f0)) == (rdOf false x7_2 ((rd_T69 l0_1 x9_2).f1))) = true := by simpa using c24))
                  clear c24
                  have H' := Aside0.mk H
                  clear H
                  have hcz36_0 := blkc BK247.out 0 (.int .i64 a0_0) rfl
                  have hcz36_1 := blkc BK247.out 1 (.slice A0_1 l0_1.length c0_1) rfl
                  have hcz36_2 := blkc BK247.out 2 (.slice A0_2 l0_2.length c0_2) rfl
                  have hfz36_0 := blk_frozen BK247.out 0
                  have hfz36_1 := blk_frozen BK247.out 1
                  have hfz36_2 := blk_frozen BK247.out 2
                  have p252 : 0 ≤ (x9_2 : Int) := of_decide_eq_true asz
                  have q252 : x9_2 < (l0_1.length : Int) := of_decide_eq_true asz
                  obtain ⟨ad252, e252, hx252_0, hx252_1⟩ := at_T69 HR0_1.out x9_2 p252 q252
                  cases e252
                  replace hx252_0 := (HB.out.cell (World.block_lt_of_cell? w _ hx252_0)).trans hx252_0
                  replace hx252_1 := (HB.out.cell (World.block_lt_of_cell? w _ hx252_1)).trans hx252_1
                  replace p252 := eq_true p252
                  replace q252 := eq_true q252
                  try go_wp2_with (first | ((with_reducible refine gate_dst (N := 10) rfl ?_); refine box_event ?hg (N := 10) ?hd (cs := #[.int .i64 0, .int .i64 0]) (t := 69) ?hr ?_; (case hd => rfl); (case hg => rfl); (case hr => first | (go_simp; done) | (go_simp; rfl)); intro gb253 hg w37 hbox hb; have BK253 := Aside0.mk (hbox); have GW253 := bsz (w := w) hg; have GE253 := GW253; have NB247_253 := neL (g := gb247) hg; have NB253_247 := neR (g := gb247) hg; replace HO_7 := Aside0.mk (Kd.R_below (ownx HO_7) hb); replace BK247 := Aside0.mk (blk_below (g := gb247) blkz hb); replace HB := Aside0.mk (below_step bel hb); clear hb hbox hg; have hnb38 := NB253_247.out; have hnc38 := NB247_253.out; have hcz39_0 := blkc BK253.out 0 (.int .i64 0) rfl; have hcz39_1 := blkc BK253.out 1 (.int .i64 0) rfl; have hfz39_0 := blk_frozen BK253.out 0; have hfz39_1 := blk_frozen BK253.out 1))
                  have n0_ : Aside0 (Kd.R Kd.bool 4 ((w37.setCell ⟨gb253, 0, none⟩ (.int .i64 ((rd_T69 l0_1 x9_2).f0))).setCell ⟨gb253, 1, none⟩ (.int .i64 ((rd_T69 l0_1 x9_2).f1))) w.heap.size (fun _ => True) (.slice (some ⟨go8, 0, none⟩) x7_2.length co8) x7_2) := ⟨by (with_reducible repeat (first | apply Kd.R_alloc | apply Kd.R_drewN | apply Kd.R_drew)); exact Kd.R_mono (Kd.R_far (p := ⟨gb253, 1, none⟩) (Kd.R_far (p := ⟨gb253, 0, none⟩) (Kd.R_types HO_7.out BK253.out (by decide)) (fun _ hk => hk.2) (.int .i64 ((rd_T69 l0_1 x9_2).f0))) (fun _ hk => hk.2) (.int .i64 ((rd_T69 l0_1 x9_2).f1))) (fun _ hk => trivial)⟩
                  have n1_ : Aside0 (((w37.setCell ⟨gb253, 0, none⟩ (.int .i64 ((rd_T69 l0_1 x9_2).f0))).setCell ⟨gb253, 1, none⟩ (.int .i64 ((rd_T69 l0_1 x9_2).f1))).heap[gb247]? = some (.cells #[.int .i64 a0_0, .slice (some ad252) l0_1.length c0_1, .slice A0_2 l0_2.length c0_2] 25 (0, 0))) := ⟨by (with_reducible repeat (first | refine blk_drewN ?_ _ | refine blk_drew ?_ | refine blk_alloc ?_ _)); refine blk_far ?_ NB247_253.out _; (with_reducible repeat (first | refine blk_drewN ?_ _ | refine blk_drew ?_ | refine blk_alloc ?_ _)); refine blk_far ?_ NB247_253.out _; (with_reducible repeat (first | refine blk_drewN ?_ _ | refine blk_drew ?_ | refine blk_alloc ?_ _)); exact BK247.out⟩
                  have n2_ : Aside0 (((w37.setCell ⟨gb253, 0, none⟩ (.int .i64 ((rd_T69 l0_1 x9_2).f0))).setCell ⟨gb253, 1, none⟩ (.int .i64 ((rd_T69 l0_1 x9_2).f1))).heap[gb253]? = some (.cells #[.int .i64 ((rd_T69 l0_1 x9_2).f0), .int .i64 ((rd_T69 l0_1 x9_2).f1)] 69 (0, 0))) := ⟨by (with_reducible repeat (first | refine blk_drewN ?_ _ | refine blk_drew ?_ | refine blk_alloc ?_ _)); refine blk_put (cs := #[.int .i64 ((rd_T69 l0_1 x9_2).f0), .int .i64 0]) ?_ 1 _ rfl; (with_reducible repeat (first | refine blk_drewN ?_ _ | refine blk_drew ?_ | refine blk_alloc ?_ _)); refine blk_put (cs := #[.int .i64 0, .int .i64 0]) ?_ 0 _ rfl; (with_reducible repeat (first | refine blk_drewN ?_ _ | refine blk_drew ?_ | refine blk_alloc ?_ _)); exact BK253.out⟩
                  have n3_ : Aside0 (Below w.heap.size w ((w37.setCell ⟨gb253, 0, none⟩ (.int .i64 ((rd_T69 l0_1 x9_2).f0))).setCell ⟨gb253, 1, none⟩ (.int .i64 ((rd_T69 l0_1 x9_2).f1)))) := ⟨bel⟩
                  (try clear HO_7)
                  (try clear BK247)
                  (try clear BK253)
                  (try clear HB)
                  generalize ((w37.setCell ⟨gb253, 0, none⟩ (.int .i64 ((rd_T69 l0_1 x9_2).f0))).setCell ⟨gb253, 1, none⟩ (.int .i64 ((rd_T69 l0_1 x9_2).f1))) = w40 at n0_ n1_ n2_ n3_ ⊢
                  have HO_7 := n0_
                  have BK247 := n1_
                  have BK253 := n2_
                  have HB := n3_
                  clear n0_ n1_ n2_ n3_
                  have n0_ := Aside0.mk (Kd.R_drew HO_7.out)
                  have n1_ := Aside0.mk (blk_drew BK247.out)
                  have n2_ := Aside0.mk (blk_drew BK253.out)
                  have n3_ := Aside0.mk (below_drew1 HB.out)
                  clear HO_7
                  clear BK247
                  clear BK253
                  clear HB
                  have HO_7 := n0_
                  have BK247 := n1_
                  have BK253 := n2_
                  have HB := n3_
                  clear n0_ n1_ n2_ n3_
                  have p255 : 0 ≤ (((rd_T69 l0_1 x9_2).f0) : Int) := of_decide_eq_true asz
                  have q255 : ((rd_T69 l0_1 x9_2).f0) < (x7_2.length : Int) := of_decide_eq_true asz
                  obtain ⟨ad255, e255, hx255_0⟩ := Kd.at_bool (Kd.R_reads' HO_7.out).2.2 ((rd_T69 l0_1 x9_2).f0) p255 q255
                  obtain rfl : (⟨go8, 0, none⟩ : Addr) = ad255 := (by injection e255)
                  (first | simp only [add_plain] at hx255_0 | simp only [add_at] at hx255_0 | simp only [Addr.add, Nat.zero_add] at hx255_0 | skip)
                  replace p255 := eq_true p255
                  replace q255 := eq_true q255
                  have p256 : 0 ≤ (((rd_T69 l0_1 x9_2).f1) : Int) := of_decide_eq_true asz
                  have q256 : ((rd_T69 l0_1 x9_2).f1) < (x7_2.length : Int) := of_decide_eq_true asz
                  obtain ⟨ad256, e256, hx256_0⟩ := Kd.at_bool (Kd.R_reads' HO_7.out).2.2 ((rd_T69 l0_1 x9_2).f1) p256 q256
                  obtain rfl : (⟨go8, 0, none⟩ : Addr) = ad256 := (by injection e256)
                  (first | simp only [add_plain] at hx256_0 | simp only [add_at] at hx256_0 | simp only [Addr.add, Nat.zero_add] at hx256_0 | skip)
                  replace p256 := eq_true p256
                  replace q256 := eq_true q256
                  refine start_ (n := 16) (S := fun w' => w'.cell? ⟨gb253, 0, none⟩ = some (.int .i64 ((rd_T69 l0_1 x9_2).f0)) ∧ w'.cell? ⟨gb253, 1, none⟩ = some (.int .i64 ((rd_T69 l0_1 x9_2).f1)) ∧ w'.cell? ⟨go8, (((rd_T69 l0_1 x9_2).f0)).toNat, none⟩ = some (.bool (rdOf false x7_2 ((rd_T69 l0_1 x9_2).f0))) ∧ w'.cell? ⟨go8, (((rd_T69 l0_1 x9_2).f1)).toNat, none⟩ = some (.bool (rdOf false x7_2 ((rd_T69 l0_1 x9_2).f1)))) (ds := []) #[false, false, false, false, false, false, false, false, false, false, false, false, false, false, false, false] (by kernel_rfl) rfl rfl ⟨(blk_cell BK253.out 0).trans rfl, (blk_cell BK253.out 1).trans rfl, hx255_0, hx256_0⟩ (fun hHeld => ?_); refine with_tabW dropperref05_from.tab10 dropperref05_from.bits10 (fun HT_ HW_ => ?_)
                  generalize w40.drew = w41 at HO_7 BK247 BK253 HB hx255_0 hx256_0 hHeld ⊢
                  refine pst (i := 0) (N := some 30) (bz 16 1) (any_of HT_.out (by kernel_rfl)) ?_
                  refine pst (i := 1) (N := some 31) (bz 16 3) (any_of HT_.out (by kernel_rfl)) ?_
                  refine one_ (i := 2) (N := some 32) #[true, true, true, false, false, false, false, false, false, false, false, false, false, false, false, false] rfl rfl (one_of HT_.out (by kernel_rfl)) (by decide) (fun K hK => ?_)
                  refine goes_ Tryd.func61 (by kernel_rfl) rfl #[.int .i64 a1, .int .i64 x9_2] (by rfl) rfl rfl mapz ?_
                  with_reducible refine (dropperref05_closed.calls a1 x9_2 true _ A18.out).mono ?_
                  rintro e w' ⟨rfl, ⟨nd, rfl⟩⟩
                  refine ⟨_, rfl, ?_⟩
                  refine hK.out _ _ ⟨(blk_cell BK253.out 0).trans rfl, (blk_cell BK253.out 1).trans rfl, hHeld.2.2.1, hHeld.2.2.2⟩ (fun hHeld => ?_)
                  clear hK K
                  refine norm_ (a' := ?_) ?_ ?_
                  rotate_left
                  ·
                   show Act.put _ (some 32) _ = _
                   simp only [Act.put, List.setIfInBounds_toArray, List.set_cons_zero, List.set_cons_succ, i64_w, i32_w]
                   rfl
                  refine pst (i := 3) (N := some 33) (bz 16 15) (any_of HT_.out (by kernel_rfl)) ?_
                  refine pst (i := 4) (N := some 34) (bz 16 31) (any_of HT_.out (by kernel_rfl)) ?_
                  refine pst (i := 5) (N := some 35) (bz 16 63) (any_of HT_.out (by kernel_rfl)) ?_
                  refine pst (i := 9) (N := some 39) (bz 16 575) (any_of HT_.out (by kernel_rfl)) ?_
                  refine pst (i := 10) (N := some 40) (bz 16 1599) (any_of HT_.out (by kernel_rfl)) ?_
                  refine tst4 (i := 6) (N := some 36) (bz 16 1663) (take_ofW HT_.out HW_.out (by kernel_rfl)) hHeld ?_
                  refine pst (i := 7) (N := some 37) (bz 16 1791) (any_of HT_.out (by kernel_rfl)) ?_
                  refine tst4 (i := 8) (N := some 38) (bz 16 2047) (take_ofW HT_.out HW_.out (by kernel_rfl)) hHeld ?_
                  refine tst4 (i := 11) (N := some 41) (bz 16 4095) (take_ofW HT_.out HW_.out (by kernel_rfl)) hHeld ?_
                  refine pst (i := 12) (N := some 42) (bz 16 8191) (any_of HT_.out (by kernel_rfl)) ?_
                  refine tst4 (i := 13) (N := some 43) (bz 16 16383) (take_ofW HT_.out HW_.out (by kernel_rfl)) hHeld ?_
                  refine pst (i := 14) (N := some 44) (bz 16 32767) (any_of HT_.out (by kernel_rfl)) ?_
                  refine pst (i := 15) (N := some 45) (bz 16 65535) (any_of HT_.out (by kernel_rfl)) ?_
                  refine done_ (done_of HT_.out (by kernel_rfl)) ?_
                  try go_wp2
                  (try simp only [← hl7_2])
                  go_roundg k2
                  case measure => have := HK1.out; have := HK2.out; omega
                  case rel => exact ⟨(x7_2), (x8_2), (wrap64 (x9_2 + 1)), rsz, rsz, H', ⟨by have := HK1.out; have := HK2.out; omega⟩, ⟨by (try simp only [hl7_1]); (try simp only [hl7_2]); (with_reducible repeat (first | apply Kd.R_alloc | apply Kd.R_drewN | apply Kd.R_drew)); exact HO_7.out⟩, ⟨by (try simp only [hl7_1]); (try simp only [hl7_2]); (with_reducible repeat (first | refine blk_drewN ?_ _ | refine blk_drew ?_ | refine blk_alloc ?_ _)); exact BK247.out⟩, ⟨bel⟩⟩
                ·
                 rw [if_neg c23] at H
                 exact absurd H (by simp)
               ·
                rw [if_neg c22] at H
                exact absurd H (by simp)
              ·
               rw [if_neg c21] at H
               exact absurd H (by simp)
             ·
              rw [if_neg c20] at H
              exact absurd H (by simp)
            ·
             replace c19 := Bool.eq_false_iff.mpr c19
             subst c19
             have H1 : (dropperref05_from.l1 k2 a1 x7_2 x8_2 (wrap64 (x9_2 + 1)) a0_0 l0_1 l0_2) = some r := by rw [if_neg (show ¬ (false = true) by decide)] at H; exact H
             clear H
             have H := H1
             clear H1
             have H' := Aside0.mk H
             clear H
             have hcz42_0 := blkc BK247.out 0 (.int .i64 a0_0) rfl
             have hcz42_1 := blkc BK247.out 1 (.slice A0_1 l0_1.length c0_1) rfl
             have hcz42_2 := blkc BK247.out 2 (.slice A0_2 l0_2.length c0_2) rfl
             have hfz42_0 := blk_frozen BK247.out 0
             have hfz42_1 := blk_frozen BK247.out 1
             have hfz42_2 := blk_frozen BK247.out 2
             have p252 : 0 ≤ (x9_2 : Int) := of_decide_eq_true asz
             have q252 : x9_2 < (l0_1.length : Int) := of_decide_eq_true asz
             obtain ⟨ad252, e252, hx252_0, hx252_1⟩ := at_T69 HR0_1.out x9_2 p252 q252
             cases e252
             replace hx252_0 := (HB.out.cell (World.block_lt_of_cell? w _ hx252_0)).trans hx252_0
             replace hx252_1 := (HB.out.cell (World.block_lt_of_cell? w _ hx252_1)).trans hx252_1
             replace p252 := eq_true p252
             replace q252 := eq_true q252
             try go_wp2_with (first | ((with_reducible refine gate_dst (N := 10) rfl ?_); refine box_event ?hg (N := 10) ?hd (cs := #[.int .i64 0, .int .i64 0]) (t := 69) ?hr ?_; (case hd => rfl); (case hg => rfl); (case hr => first | (go_simp; done) | (go_simp; rfl)); intro gb253 hg w43 hbox hb; have BK253 := Aside0.mk (hbox); have GW253 := bsz (w := w) hg; have GE253 := GW253; have NB247_253 := neL (g := gb247) hg; have NB253_247 := neR (g := gb247) hg; replace HO_7 := Aside0.mk (Kd.R_below (ownx HO_7) hb); replace BK247 := Aside0.mk (blk_below (g := gb247) blkz hb); replace HB := Aside0.mk (below_step bel hb); clear hb hbox hg; have hnb44 := NB253_247.out; have hnc44 := NB247_253.out; have hcz45_0 := blkc BK253.out 0 (.int .i64 0) rfl; have hcz45_1 := blkc BK253.out 1 (.int .i64 0) rfl; have hfz45_0 := blk_frozen BK253.out 0; have hfz45_1 := blk_frozen BK253.out 1))
             have n0_ : Aside0 (Kd.R Kd.bool 4 ((w43.setCell ⟨gb253, 0, none⟩ (.int .i64 ((rd_T69 l0_1 x9_2).f0))).setCell ⟨gb253, 1, none⟩ (.int .i64 ((rd_T69 l0_1 x9_2).f1))) w.heap.size (fun _ => True) (.slice (some ⟨go8, 0, none⟩) x7_2.length co8) x7_2) := ⟨by (with_reducible repeat (first | apply Kd.R_alloc | apply Kd.R_drewN | apply Kd.R_drew)); exact Kd.R_mono (Kd.R_far (p := ⟨gb253, 1, none⟩) (Kd.R_far (p := ⟨gb253, 0, none⟩) (Kd.R_types HO_7.out BK253.out (by decide)) (fun _ hk => hk.2) (.int .i64 ((rd_T69 l0_1 x9_2).f0))) (fun _ hk => hk.2) (.int .i64 ((rd_T69 l0_1 x9_2).f1))) (fun _ hk => trivial)⟩
             have n1_ : Aside0 (((w43.setCell ⟨gb253, 0, none⟩ (.int .i64 ((rd_T69 l0_1 x9_2).f0))).setCell ⟨gb253, 1, none⟩ (.int .i64 ((rd_T69 l0_1 x9_2).f1))).heap[gb247]? = some (.cells #[.int .i64 a0_0, .slice (some ad252) l0_1.length c0_1, .slice A0_2 l0_2.length c0_2] 25 (0, 0))) := ⟨by (with_reducible repeat (first | refine blk_drewN ?_ _ | refine blk_drew ?_ | refine blk_alloc ?_ _)); refine blk_far ?_ NB247_253.out _; (with_reducible repeat (first | refine blk_drewN ?_ _ | refine blk_drew ?_ | refine blk_alloc ?_ _)); refine blk_far ?_ NB247_253.out _; (with_reducible repeat (first | refine blk_drewN ?_ _ | refine blk_drew ?_ | refine blk_alloc ?_ _)); exact BK247.out⟩
             have n2_ : Aside0 (((w43.setCell ⟨gb253, 0, none⟩ (.int .i64 ((rd_T69 l0_1 x9_2).f0))).setCell ⟨gb253, 1, none⟩ (.int .i64 ((rd_T69 l0_1 x9_2).f1))).heap[gb253]? = some (.cells #[.int .i64 ((rd_T69 l0_1 x9_2).f0), .int .i64 ((rd_T69 l0_1 x9_2).f1)] 69 (0, 0))) := ⟨by (with_reducible repeat (first | refine blk_drewN ?_ _ | refine blk_drew ?_ | refine blk_alloc ?_ _)); refine blk_put (cs := #[.int .i64 ((rd_T69 l0_1 x9_2).f0), .int .i64 0]) ?_ 1 _ rfl; (with_reducible repeat (first | refine blk_drewN ?_ _ | refine blk_drew ?_ | refine blk_alloc ?_ _)); refine blk_put (cs := #[.int .i64 0, .int .i64 0]) ?_ 0 _ rfl; (with_reducible repeat (first | refine blk_drewN ?_ _ | refine blk_drew ?_ | refine blk_alloc ?_ _)); exact BK253.out⟩
             have n3_ : Aside0 (Below w.heap.size w ((w43.setCell ⟨gb253, 0, none⟩ (.int .i64 ((rd_T69 l0_1 x9_2).f0))).setCell ⟨gb253, 1, none⟩ (.int .i64 ((rd_T69 l0_1 x9_2).f1)))) := ⟨bel⟩
             (try clear HO_7)
             (try clear BK247)
             (try clear BK253)
             (try clear HB)
             generalize ((w43.setCell ⟨gb253, 0, none⟩ (.int .i64 ((rd_T69 l0_1 x9_2).f0))).setCell ⟨gb253, 1, none⟩ (.int .i64 ((rd_T69 l0_1 x9_2).f1))) = w46 at n0_ n1_ n2_ n3_ ⊢
             have HO_7 := n0_
             have BK247 := n1_
             have BK253 := n2_
             have HB := n3_
             clear n0_ n1_ n2_ n3_
             have n0_ := Aside0.mk (Kd.R_drew HO_7.out)
             have n1_ := Aside0.mk (blk_drew BK247.out)
             have n2_ := Aside0.mk (blk_drew BK253.out)
             have n3_ := Aside0.mk (below_drew1 HB.out)
             clear HO_7
             clear BK247
             clear BK253
             clear HB
             have HO_7 := n0_
             have BK247 := n1_
             have BK253 := n2_
             have HB := n3_
             clear n0_ n1_ n2_ n3_
             refine start_ (n := 16) (S := fun w' => True) (ds := []) #[false, false, false, false, false, false, false, false, false, false, false, false, false, false, false, false] (by kernel_rfl) rfl rfl trivial (fun hHeld => ?_); refine with_tabW dropperref05_from.tab10 dropperref05_from.bits10 (fun HT_ HW_ => ?_)
             generalize w46.drew = w47 at HO_7 BK247 BK253 HB hHeld ⊢
             refine pst (i := 0) (N := some 30) (bz 16 1) (any_of HT_.out (by kernel_rfl)) ?_
             refine pst (i := 1) (N := some 31) (bz 16 3) (any_of HT_.out (by kernel_rfl)) ?_
             refine one_ (i := 2) (N := some 32) #[true, true, true, false, false, false, false, false, false, false, false, false, false, false, false, false] rfl rfl (one_of HT_.out (by kernel_rfl)) (by decide) (fun K hK => ?_)
             refine goes_ Tryd.func61 (by kernel_rfl) rfl #[.int .i64 a1, .int .i64 x9_2] (by rfl) rfl rfl mapz ?_
             with_reducible refine (dropperref05_closed.calls a1 x9_2 false _ A18.out).mono ?_
             rintro e w' ⟨rfl, ⟨nd, rfl⟩⟩
             refine ⟨_, rfl, ?_⟩
             refine hK.out _ _ trivial (fun hHeld => ?_)
             clear hK K
             refine norm_ (a' := ?_) ?_ ?_
             rotate_left
             ·
              show Act.put _ (some 32) _ = _
              simp only [Act.put, List.setIfInBounds_toArray, List.set_cons_zero, List.set_cons_succ, i64_w, i32_w]
              rfl
             refine pst (i := 3) (N := some 33) (bz 16 15) (any_of HT_.out (by kernel_rfl)) ?_
             refine pso (i := 4) (N := some 34) (bz 16 31) (any_of HT_.out (by kernel_rfl)) ?_
             refine pso (i := 5) (N := some 35) (bz 16 63) (any_of HT_.out (by kernel_rfl)) ?_
             refine pso (i := 6) (N := some 36) (bz 16 127) (any_of HT_.out (by kernel_rfl)) ?_
             refine pso (i := 7) (N := some 37) (bz 16 255) (any_of HT_.out (by kernel_rfl)) ?_
             refine pso (i := 8) (N := some 38) (bz 16 511) (any_of HT_.out (by kernel_rfl)) ?_
             refine pso (i := 9) (N := some 39) (bz 16 1023) (any_of HT_.out (by kernel_rfl)) ?_
             refine pso (i := 10) (N := some 40) (bz 16 2047) (any_of HT_.out (by kernel_rfl)) ?_
             refine pso (i := 11) (N := some 41) (bz 16 4095) (any_of HT_.out (by kernel_rfl)) ?_
             refine pso (i := 12) (N := some 42) (bz 16 8191) (any_of HT_.out (by kernel_rfl)) ?_
             refine pso (i := 13) (N := some 43) (bz 16 16383) (any_of HT_.out (by kernel_rfl)) ?_
             refine pso (i := 14) (N := some 44) (bz 16 32767) (any_of HT_.out (by kernel_rfl)) ?_
             refine pst (i := 15) (N := some 45) (bz 16 65535) (any_of HT_.out (by kernel_rfl)) ?_
             refine done_ (done_of HT_.out (by kernel_rfl)) ?_
             try go_wp2
             (try simp only [← hl7_2])
             go_roundg k2
             case measure => have := HK1.out; have := HK2.out; omega
             case rel => exact ⟨(x7_2), (x8_2), (wrap64 (x9_2 + 1)), rsz, rsz, H', ⟨by have := HK1.out; have := HK2.out; omega⟩, ⟨by (try simp only [hl7_1]); (try simp only [hl7_2]); (with_reducible repeat (first | apply Kd.R_alloc | apply Kd.R_drewN | apply Kd.R_drew)); exact HO_7.out⟩, ⟨by (try simp only [hl7_1]); (try simp only [hl7_2]); (with_reducible repeat (first | refine blk_drewN ?_ _ | refine blk_drew ?_ | refine blk_alloc ?_ _)); exact BK247.out⟩, ⟨bel⟩⟩
           ·
            rw [if_neg c17] at H
            exact absurd H (by simp)
          ·
           rw [if_neg c16] at H
           have c16b0 : decide (x9_2 < (l0_1.length : Int)) = false := decide_eq_false c16
           try (have c16b0hl7_1 := c16b0; simp only [hl7_1] at c16b0hl7_1)
           try (have c16b0hl7_2 := c16b0; simp only [hl7_2] at c16b0hl7_2)
           clear c16
           have H' := Aside0.mk H
           clear H
           have hcz48_0 := blkc BK247.out 0 (.int .i64 a0_0) rfl
           have hcz48_1 := blkc BK247.out 1 (.slice A0_1 l0_1.length c0_1) rfl
           have hcz48_2 := blkc BK247.out 2 (.slice A0_2 l0_2.length c0_2) rfl
           have hfz48_0 := blk_frozen BK247.out 0
           have hfz48_1 := blk_frozen BK247.out 1
           have hfz48_2 := blk_frozen BK247.out 2
           go_wp2
           (try simp only [← hl7_1, ← hl7_2])
           go_roundg k2
           case measure => have := HK1.out; have := HK2.out; omega
           case rel => exact ⟨(x7_2), (x8_2), rsz, H', ⟨by have := HK1.out; have := HK2.out; omega⟩, ⟨by (try simp only [hl7_1]); (try simp only [hl7_2]); (with_reducible repeat (first | apply Kd.R_alloc | apply Kd.R_drewN | apply Kd.R_drew)); exact HO_7.out⟩, ⟨by (try simp only [hl7_1]); (try simp only [hl7_2]); (with_reducible repeat (first | refine blk_drewN ?_ _ | refine blk_drew ?_ | refine blk_alloc ?_ _)); exact BK247.out⟩, ⟨bel⟩⟩
       ·
        replace c15 := Bool.eq_false_iff.mpr c15
        subst c15
        have H1 : (some x7_1) = some r := by rw [if_neg (show ¬ (false = true) by decide)] at H; exact H
        clear H
        have H := H1
        clear H1
        obtain rfl := Option.some.inj H
        go_wp2
        go_ret
        exact ⟨_, ezz, by (with_reducible repeat (first | apply Kd.R_alloc | apply Kd.R_drewN | apply Kd.R_drew)); exact HO_7.out, bel⟩
    ·
     rw [if_neg c7] at H
     exact absurd H (by simp)
   ·
    rw [if_neg c6] at H
    exact absurd H (by simp)
  ·
   rw [if_neg c5] at H
   exact absurd H (by simp)
 ·
  rw [if_neg c4] at H
  exact absurd H (by simp)

/-! ### dropperref05_live: function 49 -/
mutual
def dropperref05_live.l0 : Nat → Int → List Int → Int → Int → List (S69) → List (S71) → Option (List Int)
 | 0, _, _, _, _, _, _ => none
 | k + 1, x1, x5, x6, x260000, x260001, x260002 => if x6 < (x260002.length : Int) then (if 0 ≤ x6 then ((dropperref05_from.f k x260000 x260001 x260002 x1 ((rd_T71 x260002 x6).f0)).bind fun t264 => (dropperref05_live.l1 k x1 x5 x6 t264 0 x260000 x260001 x260002)) else (none)) else (some x5)
def dropperref05_live.l1 : Nat → Int → List Int → Int → List Bool → Int → Int → List (S69) → List (S71) → Option (List Int)
 | 0, _, _, _, _, _, _, _, _ => none
 | k + 1, x1, x5, x6, x7, x8, x260000, x260001, x260002 => if x8 < x260000 then (if 0 ≤ x6 then (if x6 < (x260002.length : Int) then (if 0 ≤ x8 then (if x8 < (x7.length : Int) then (if rdOf false x7 x8 = true then (if x8 < (x5.length : Int) then (if (rd x5 x8) = 0 then (dropperref05_live.l1 k x1 (x5.set (x8 : Int).toNat ((rd_T71 x260002 x6).f1)) x6 x7 (wrap64 (x8 + 1)) x260000 x260001 x260002) else (if (rd x5 x8) = ((rd_T71 x260002 x6).f1) then (dropperref05_live.l1 k x1 x5 x6 x7 (wrap64 (x8 + 1)) x260000 x260001 x260002) else (dropperref05_live.l1 k x1 (x5.set (x8 : Int).toNat (-1)) x6 x7 (wrap64 (x8 + 1)) x260000 x260001 x260002))) else (none)) else (dropperref05_live.l1 k x1 x5 x6 x7 (wrap64 (x8 + 1)) x260000 x260001 x260002)) else (none)) else (none)) else (none)) else (none)) else (dropperref05_live.l0 k x1 x5 (wrap64 (x6 + 1)) x260000 x260001 x260002)
end
def dropperref05_live.f (k : Nat) (a0_0 : Int) (l0_1 : List (S69)) (l0_2 : List (S71)) (a1 : Int) : Option (List Int) := if 0 ≤ a0_0 then (if (a0_0 : Int).toNat ≤ 35184372088832 then (dropperref05_live.l0 k a1 (List.replicate (a0_0 : Int).toNat 0) 0 a0_0 l0_1 l0_2) else (none)) else (none)
theorem dropperref05_live.mono_l : ∀ k, (∀ y0 y1 y2 y3 y4 y5, LeO (dropperref05_live.l0 k y0 y1 y2 y3 y4 y5) (dropperref05_live.l0 (k + 1) y0 y1 y2 y3 y4 y5)) ∧ (∀ y0 y1 y2 y3 y4 y5 y6 y7, LeO (dropperref05_live.l1 k y0 y1 y2 y3 y4 y5 y6 y7) (dropperref05_live.l1 (k + 1) y0 y1 y2 y3 y4 y5 y6 y7))
 | 0 => ⟨fun _ _ _ _ _ _ r h => by simp [dropperref05_live.l0] at h, fun _ _ _ _ _ _ _ _ r h => by simp [dropperref05_live.l1] at h⟩
 | k + 1 => by
  obtain ⟨ih0, ih1⟩ := dropperref05_live.mono_l k
  refine ⟨?_, ?_⟩
  ·
   intro y0 y1 y2 y3 y4 y5
   unfold dropperref05_live.l0
   repeat' first
   | (with_reducible exact ih0 _ _ _ _ _ _)
   | (with_reducible exact ih1 _ _ _ _ _ _ _ _)
   | (with_reducible exact dropperref05_from.mono _ _ _ _ _ _)
   | (with_reducible exact LeO.refl _)
   | (with_reducible exact LeO.none _)
   | (with_reducible refine LeO.ite ?_ ?_)
   | (with_reducible refine LeO.bind ?_ (fun _ => ?_))
   | exact ih0 _ _ _ _ _ _
   | exact ih1 _ _ _ _ _ _ _ _
   | exact dropperref05_from.mono _ _ _ _ _ _
   | exact LeO.none _
   | refine LeO.ite ?_ ?_
   | refine LeO.bind ?_ (fun _ => ?_)
  ·
   intro y0 y1 y2 y3 y4 y5 y6 y7
   unfold dropperref05_live.l1
   repeat' first
   | (with_reducible exact ih0 _ _ _ _ _ _)
   | (with_reducible exact ih1 _ _ _ _ _ _ _ _)
   | (with_reducible exact dropperref05_from.mono _ _ _ _ _ _)
   | (with_reducible exact LeO.refl _)
   | (with_reducible exact LeO.none _)
   | (with_reducible refine LeO.ite ?_ ?_)
   | (with_reducible refine LeO.bind ?_ (fun _ => ?_))
   | exact ih0 _ _ _ _ _ _
   | exact ih1 _ _ _ _ _ _ _ _
   | exact dropperref05_from.mono _ _ _ _ _ _
   | exact LeO.none _
   | refine LeO.ite ?_ ?_
   | refine LeO.bind ?_ (fun _ => ?_)
theorem dropperref05_live.mono : ∀ a0 a1 a2 a3 k, LeO (dropperref05_live.f k a0 a1 a2 a3) (dropperref05_live.f (k + 1) a0 a1 a2 a3) := by
 intro a0 a1 a2 a3 k
 obtain ⟨ih0, ih1⟩ := dropperref05_live.mono_l k
 unfold dropperref05_live.f
 repeat' first
   | (with_reducible exact ih0 _ _ _ _ _ _)
   | (with_reducible exact ih1 _ _ _ _ _ _ _ _)
   | (with_reducible exact dropperref05_from.mono _ _ _ _ _ _)
   | (with_reducible exact LeO.refl _)
   | (with_reducible exact LeO.none _)
   | (with_reducible refine LeO.ite ?_ ?_)
   | (with_reducible refine LeO.bind ?_ (fun _ => ?_))
   | exact ih0 _ _ _ _ _ _
   | exact ih1 _ _ _ _ _ _ _ _
   | exact dropperref05_from.mono _ _ _ _ _ _
   | exact LeO.none _
   | refine LeO.ite ?_ ?_
   | refine LeO.bind ?_ (fun _ => ?_)
def dropperref05_live.T5 : Bool × List (List Nat × List Nat) := (true, [([], []), ([], []), ([], []), ([2], [2]), ([], []), ([3, 4], [3, 4]), ([5], [5]), ([6], [6]), ([0, 1, 7], [0, 1, 7]), ([8, 8, 0, 1, 2, 3, 4, 5, 6, 7, 8], [8])])
def dropperref05_live.B5 : List Nat := [0, 0, 0, 4, 0, 28, 60, 124, 255, 511]
theorem dropperref05_live.tab5 : rtab .any (opsOf Tryd.f49 5) = dropperref05_live.T5 := by kernel_rfl
theorem dropperref05_live.bits5 : waitsOk dropperref05_live.T5.2 dropperref05_live.B5 = true := by kernel_rfl
set_option maxHeartbeats 8000000 in
set_option maxRecDepth 100000 in
theorem dropperref05_live.calls (k : Nat) (a0_0 : Int) (A0_1 : Option Addr) (c0_1 : Nat) (l0_1 : List (S69)) (A0_2 : Option Addr) (c0_2 : Nat) (l0_2 : List (S71)) (a1 : Int) (r : List Int) (w : World) (hr0_1 : Kd.C k69 w A0_1 l0_1.length l0_1) (hc0_1 : l0_1.length ≤ c0_1) (hr0_2 : Kd.C k71 w A0_2 l0_2.length l0_2) (hc0_2 : l0_2.length ≤ c0_2) (h : dropperref05_live.f k a0_0 l0_1 l0_2 a1 = some r) :
  Calls Tryd.prog 49 #[.agg #[.int .i64 a0_0, .slice A0_1 l0_1.length c0_1, .slice A0_2 l0_2.length c0_2], .int .i64 a1] w fun e w' => ∃ v0_ : Value, e = .returned (v0_) ∧ Kd.R (Kd.int .i64) 3 w' w.heap.size (fun _ => True) v0_ r ∧ Below w.heap.size w w' := by
 have hu25 := Tryd.underlying25
 have HR0_1 := Aside0.mk hr0_1
 have HC0_1 := Aside0.mk hc0_1
 clear hr0_1 hc0_1
 have HR0_2 := Aside0.mk hr0_2
 have HC0_2 := Aside0.mk hc0_2
 clear hr0_2 hc0_2
 have HB := Aside0.mk (Below.refl w.heap.size w)
 have H : (if 0 ≤ a0_0 then (if (a0_0 : Int).toNat ≤ 35184372088832 then (dropperref05_live.l0 k a1 (List.replicate (a0_0 : Int).toNat 0) 0 a0_0 l0_1 l0_2) else (none)) else (none)) = some r := h
 clear h
 by_cases c3 : 0 ≤ a0_0
 ·
  rw [if_pos c3] at H
  have c3b0 := eq_true c3
  have c3b1 : decide (0 ≤ a0_0) = true := decide_eq_true c3
  clear c3
  by_cases c4 : (a0_0 : Int).toNat ≤ 35184372088832
  ·
   rw [if_pos c4] at H
   have c4b0 := eq_true c4
   have c4b1 : decide ((a0_0 : Int).toNat ≤ 35184372088832) = true := decide_eq_true c4
   clear c4
   obtain ⟨y260, hy260⟩ : ∃ y_ : List Int, y_ = (List.replicate (a0_0 : Int).toNat 0) := ⟨_, rfl⟩
   replace H : (dropperref05_live.l0 k a1 y260 0 a0_0 l0_1 l0_2) = some r := by first | (rw [hy260]; with_reducible exact H) | (have H2_ := (Option.bind_some _ _).symm.trans H; rw [hy260]; with_reducible exact H2_) | (have H2_ := (Option.bind_some _ _).symm.trans H; with_reducible exact H2_) | with_reducible exact H | (rw [hy260]; exact H) | exact H
   have Ny260 := Aside0.mk hy260
   clear hy260
   have H' := Aside0.mk H
   clear H
   go_enter Tryd.func49, Tryd.ntmps49
   go_wp2_with (first | ((with_reducible refine gate_dst (N := 2) rfl ?_); refine box_event ?hg (N := 2) ?hd (cs := #[.int .i64 a0_0, .slice A0_1 l0_1.length c0_1, .slice A0_2 l0_2.length c0_2]) (t := 25) ?hr ?_; (case hd => rfl); (case hg => rfl); (case hr => first | (go_simp; done) | (go_simp; rfl)); intro gb259 hg w5 hbox hb; have BK259 := Aside0.mk (hbox); have GW259 := bsz (w := w) hg; have GE259 := GW259; replace HB := Aside0.mk (below_step bel hb); clear hb hbox hg; have hcz6_0 := blkc BK259.out 0 (.int .i64 a0_0) rfl; have hcz6_1 := blkc BK259.out 1 (.slice A0_1 l0_1.length c0_1) rfl; have hcz6_2 := blkc BK259.out 2 (.slice A0_2 l0_2.length c0_2) rfl) | ((with_reducible refine gate_dst (N := 12) rfl ?_); refine Kd.R_make (Kd.int .i64) _ 3 rfl (N := 12) rfl 28 _ _ rfl a0_0 rfl rfl Tryd.underlying28 (.int .i64 0) 8 info3 rfl (by decide) (by omega) 0 (ok := fun _ => True) (okp := fun _ => True) rfl (fun _ hk => hk) trivial (of_decide_eq_true asz) (Nat.le_trans (Nat.mul_le_mul_right _ (of_decide_eq_true asz : a0_0.toNat ≤ 35184372088832)) (by omega)) (Below.refl _ _) (Nat.le_refl _) ?_; intro v261 w7 ho8 hb hg_ hnew_; clear hg_ hnew_; (first | rw [← Ny260.out] at ho8 | (simp only [Int.reduceToNat] at ho8; rw [← Ny260.out] at ho8)); have HO262 := Aside0.mk (Kd.R_lower ho8 (below_size bel)); replace BK259 := Aside0.mk (blk_below (g := gb259) blkz hb); replace HB := Aside0.mk (below_step bel hb); clear hb ho8))
   go_loopg [6] k (fun kq v6 w' => ∃ (x5_1 : List Int) (x6_1 : Int), v6 = .int .i64 x6_1 ∧ Aside0 (dropperref05_live.l0 kq a1 x5_1 x6_1 a0_0 l0_1 l0_2 = some r) ∧ Aside0 (kq ≤ k) ∧ Aside0 (Kd.R (Kd.int .i64) 3 w' w.heap.size (fun _ => True) v261 x5_1) ∧ Aside0 (w'.heap[gb259]? = some (.cells #[.int .i64 a0_0, (.slice A0_1 l0_1.length c0_1), (.slice A0_2 l0_2.length c0_2)] 25 (0, 0))) ∧ Aside0 (Below w.heap.size w w'))
   case atStart => exact ⟨(y260), (0), rsz, H', ⟨Nat.le_refl _⟩, ⟨by (with_reducible repeat (first | apply Kd.R_alloc | apply Kd.R_drewN | apply Kd.R_drew)); exact HO262.out⟩, ⟨blkz⟩, ⟨bel⟩⟩
   case round =>
    clear H'
    try clear p2
    try clear c3
    try clear c3b0
    try clear c3b1
    try clear c4
    try clear c4b0
    try clear c4b1
    try clear hcz6_0
    try clear hcz6_1
    try clear hcz6_2
    try clear hfz6_0
    try clear hfz6_1
    try clear hfz6_2
    obtain ⟨x5_1, x6_1, rfl, HA, HK1, HO_5, BK259, HB⟩ := hrel
    cases gk with
    | zero => exact absurd HA.out (by simp [dropperref05_live.l0])
    | succ k1 =>
     have H := HA.out
     clear HA
     simp only [dropperref05_live.l0] at H
     by_cases c9 : x6_1 < (l0_2.length : Int)
     ·
      rw [if_pos c9] at H
      have c9b0 : decide (x6_1 < (l0_2.length : Int)) = true := decide_eq_true c9
      clear c9
      by_cases c10 : 0 ≤ x6_1
      ·
       rw [if_pos c10] at H
       have c10b0 : decide (0 ≤ x6_1) = true := decide_eq_true c10
       clear c10
       replace H := Option.bind_eq_some_iff.mp H
       obtain ⟨t264, A110, H⟩ := H
       replace H : (dropperref05_live.l1 k1 a1 x5_1 x6_1 t264 0 a0_0 l0_1 l0_2) = some r := H
       have A11 := Aside0.mk A110
       clear A110
       have H' := Aside0.mk H
       clear H
       have hcz12_0 := blkc BK259.out 0 (.int .i64 a0_0) rfl
       have hcz12_1 := blkc BK259.out 1 (.slice A0_1 l0_1.length c0_1) rfl
       have hcz12_2 := blkc BK259.out 2 (.slice A0_2 l0_2.length c0_2) rfl
       have hfz12_0 := blk_frozen BK259.out 0
       have hfz12_1 := blk_frozen BK259.out 1
       have hfz12_2 := blk_frozen BK259.out 2
       try go_wp2
       have n0_ := Aside0.mk (Kd.R_drew HO_5.out)
       have n1_ := Aside0.mk (blk_drew BK259.out)
       have n2_ := Aside0.mk (below_drew1 HB.out)
       clear HO_5
       clear BK259
       clear HB
       have HO_5 := n0_
       have BK259 := n1_
       have HB := n2_
       clear n0_ n1_ n2_
       have p263 : 0 ≤ (x6_1 : Int) := of_decide_eq_true asz
       have q263 : x6_1 < (l0_2.length : Int) := of_decide_eq_true asz
       obtain ⟨ad263, e263, hx263_0, hx263_1⟩ := at_T71 HR0_2.out x6_1 p263 q263
       have hw263_1 := hx263_1
       have hw263_0 := hx263_0
       cases e263
       replace hx263_0 := (HB.out.cell (World.block_lt_of_cell? w _ hx263_0)).trans hx263_0
       replace hx263_1 := (HB.out.cell (World.block_lt_of_cell? w _ hx263_1)).trans hx263_1
       replace p263 := eq_true p263
       replace q263 := eq_true q263
       refine start_ (n := 10) (S := fun w' => w'.cell? ⟨gb259, 0, none⟩ = some (.int .i64 a0_0) ∧ w'.cell? ⟨gb259, 1, none⟩ = some (.slice A0_1 l0_1.length c0_1) ∧ w'.cell? ⟨gb259, 2, none⟩ = some (.slice (some ad263) l0_2.length c0_2) ∧ w'.cell? (ad263.add ((x6_1).toNat * 2)) = some (.int .i64 ((rd_T71 l0_2 x6_1).f0)) ∧ w'.cell? ⟨(ad263.add ((x6_1).toNat * 2)).block, (ad263.add ((x6_1).toNat * 2)).off + 1, none⟩ = some (.int .i64 ((rd_T71 l0_2 x6_1).f1))) (ds := []) #[false, false, false, false, false, false, false, false, false, false] (by kernel_rfl) rfl rfl ⟨(blk_cell BK259.out 0).trans rfl, (blk_cell BK259.out 1).trans rfl, (blk_cell BK259.out 2).trans rfl, ((HB.out.cell (World.block_lt_of_cell? w _ hw263_0)).trans hw263_0), ((HB.out.cell (World.block_lt_of_cell? w _ hw263_1)).trans hw263_1)⟩ (fun hHeld => ?_); refine with_tabW dropperref05_live.tab5 dropperref05_live.bits5 (fun HT_ HW_ => ?_)
       generalize wr.drew = w13 at HO_5 BK259 HB hx263_0 hx263_1 hHeld ⊢
       refine pst (i := 1) (N := some 21) (bz 10 2) (any_of HT_.out (by kernel_rfl)) ?_
       refine pst (i := 2) (N := some 22) (bz 10 6) (any_of HT_.out (by kernel_rfl)) ?_
       refine pst (i := 4) (N := some 24) (bz 10 22) (any_of HT_.out (by kernel_rfl)) ?_
       refine tst5 (i := 0) (N := some 20) (bz 10 23) (take_ofW HT_.out HW_.out (by kernel_rfl)) hHeld ?_
       refine tst5 (i := 3) (N := some 23) (bz 10 31) (take_ofW HT_.out HW_.out (by kernel_rfl)) hHeld ?_
       refine pst (i := 5) (N := some 25) (bz 10 63) (any_of HT_.out (by kernel_rfl)) ?_
       refine pst (i := 6) (N := some 26) (bz 10 127) (any_of HT_.out (by kernel_rfl)) ?_
       refine tst5 (i := 7) (N := some 27) (bz 10 255) (take_ofW HT_.out HW_.out (by kernel_rfl)) hHeld ?_
       refine one_ (i := 8) (N := some 28) #[true, true, true, true, true, true, true, true, true, false] rfl rfl (one_of HT_.out (by kernel_rfl)) (by decide) (fun K hK => ?_)
       refine goes_ Tryd.func67 (by kernel_rfl) rfl #[.agg #[.int .i64 a0_0, .slice A0_1 l0_1.length c0_1, .slice (some ad263) l0_2.length c0_2], .int .i64 a1, .int .i64 ((rd_T71 l0_2 x6_1).f0)] (by rfl) rfl rfl mapz ?_
       with_reducible refine (dropperref05_from.calls k1 a0_0 _ _ l0_1 _ _ l0_2 a1 ((rd_T71 l0_2 x6_1).f0) t264 _ ?side1 ?side2 ?side3 ?side4 A11.out).mono ?_
       (case side1 => exact cbz HR0_1)
       (case side2 => exact HC0_1.out)
       (case side3 => exact cbz HR0_2)
       (case side4 => exact HC0_2.out)
       rintro e w14 ⟨v265, rfl, ho0, hb⟩
       refine ⟨_, rfl, ?_⟩
       have n0_ := Aside0.mk (Kd.R_below (ownx HO_5) hb)
       have n1_ := Aside0.mk (Kd.R_lower ho0 (below_size bel))
       have n2_ := Aside0.mk (blk_below (g := gb259) blkz hb)
       have n3_ := Aside0.mk (below_step bel hb)
       clear HO_5
       clear BK259
       clear HB
       have HO_5 := n0_
       have HO266 := n1_
       have BK259 := n2_
       have HB := n3_
       clear n0_ n1_ n2_ n3_
       (try clear hb)
       (try clear hb2)
       (try clear hk)
       (try clear hi)
       (try clear ho0)
       refine hK.out _ _ ⟨(blk_cell BK259.out 0).trans rfl, (blk_cell BK259.out 1).trans rfl, (blk_cell BK259.out 2).trans rfl, ((HB.out.cell (World.block_lt_of_cell? w _ hw263_0)).trans hw263_0), ((HB.out.cell (World.block_lt_of_cell? w _ hw263_1)).trans hw263_1)⟩ (fun hHeld => ?_)
       clear hK K
       refine norm_ (a' := ?_) ?_ ?_
       rotate_left
       ·
        show Act.put _ (some 28) _ = _
        simp only [Act.put, List.setIfInBounds_toArray, List.set_cons_zero, List.set_cons_succ, i64_w, i32_w]
        rfl
       refine pst (i := 9) (N := some 7) (bz 10 1023) (any_of HT_.out (by kernel_rfl)) ?_
       refine done_ (done_of HT_.out (by kernel_rfl)) ?_
       try go_wp2
       go_loopg [8] k1 (fun kq v8 w' => ∃ (x5_2 : List Int) (x8_2 : Int), v8 = .int .i64 x8_2 ∧ Aside0 (dropperref05_live.l1 kq a1 x5_2 x6_1 t264 x8_2 a0_0 l0_1 l0_2 = some r) ∧ Aside0 (kq ≤ k1) ∧ Aside0 (Kd.R (Kd.int .i64) 3 w' w.heap.size (fun _ => True) v261 x5_2) ∧ Aside0 (Kd.R Kd.bool 4 w' w.heap.size (fun _ => True) v265 t264) ∧ Aside0 (w'.heap[gb259]? = some (.cells #[.int .i64 a0_0, (.slice A0_1 l0_1.length c0_1), (.slice (some ad263) l0_2.length c0_2)] 25 (0, 0))) ∧ Aside0 (Below w.heap.size w w'))
       case atStart => exact ⟨(x5_1), (0), rsz, H', ⟨Nat.le_refl _⟩, ⟨by (with_reducible repeat (first | apply Kd.R_alloc | apply Kd.R_drewN | apply Kd.R_drew)); exact HO_5.out⟩, ⟨by (with_reducible repeat (first | apply Kd.R_alloc | apply Kd.R_drewN | apply Kd.R_drew)); exact HO266.out⟩, ⟨blkz⟩, ⟨bel⟩⟩
       case round =>
        clear H'
        try clear c1
        try clear p2
        try clear q2
        try clear hx2
        try clear c3
        try clear c3b0
        try clear c3b1
        try clear c4
        try clear c4b0
        try clear c4b1
        try clear c6
        try clear c9
        try clear c9b0
        try clear c10
        try clear c10b0
        try clear hcz12_0
        try clear hcz12_1
        try clear hcz12_2
        try clear hcz6_0
        try clear hcz6_1
        try clear hcz6_2
        try clear hfz12_0
        try clear hfz12_1
        try clear hfz12_2
        try clear hfz6_0
        try clear hfz6_1
        try clear hfz6_2
        try clear hx263_0
        try clear hx263_1
        try clear p2
        try clear p263
        try clear q263
        obtain ⟨x5_2, x8_2, rfl, HA, HK2, HO_5, HO_7, BK259, HB⟩ := hrel
        cases gk with
        | zero => exact absurd HA.out (by simp [dropperref05_live.l1])
        | succ k2 =>
         have H := HA.out
         clear HA
         simp only [dropperref05_live.l1] at H
         by_cases c15 : x8_2 < a0_0
         ·
          rw [if_pos c15] at H
          have c15b0 : decide (x8_2 < a0_0) = true := decide_eq_true c15
          clear c15
          by_cases c16 : 0 ≤ x6_1
          ·
           rw [if_pos c16] at H
           have c16b0 : decide (0 ≤ x6_1) = true := decide_eq_true c16
           clear c16
           by_cases c17 : x6_1 < (l0_2.length : Int)
           ·
            rw [if_pos c17] at H
            have c17b0 : decide (x6_1 < (l0_2.length : Int)) = true := decide_eq_true c17
            clear c17
            by_cases c18 : 0 ≤ x8_2
            ·
             rw [if_pos c18] at H
             have c18b0 : decide (0 ≤ x8_2) = true := decide_eq_true c18
             clear c18
             by_cases c19 : x8_2 < (t264.length : Int)
             ·
              rw [if_pos c19] at H
              have c19b0 : decide (x8_2 < (t264.length : Int)) = true := decide_eq_true c19
              clear c19
              obtain ⟨bq20, hbq20⟩ : ∃ b_ : Bool, b_ = (rdOf false t264 x8_2) := ⟨_, rfl⟩
              replace H : (if bq20 = true then (if x8_2 < (x5_2.length : Int) then (if (rd x5_2 x8_2) = 0 then (dropperref05_live.l1 k2 a1 (x5_2.set (x8_2 : Int).toNat ((rd_T71 l0_2 x6_1).f1)) x6_1 t264 (wrap64 (x8_2 + 1)) a0_0 l0_1 l0_2) else (if (rd x5_2 x8_2) = ((rd_T71 l0_2 x6_1).f1) then (dropperref05_live.l1 k2 a1 x5_2 x6_1 t264 (wrap64 (x8_2 + 1)) a0_0 l0_1 l0_2) else (dropperref05_live.l1 k2 a1 (x5_2.set (x8_2 : Int).toNat (-1)) x6_1 t264 (wrap64 (x8_2 + 1)) a0_0 l0_1 l0_2))) else (none)) else (dropperref05_live.l1 k2 a1 x5_2 x6_1 t264 (wrap64 (x8_2 + 1)) a0_0 l0_1 l0_2)) = some r := by rw [← hbq20] at H; exact H
              have Nbq20 := Aside0.mk hbq20
              clear hbq20
              by_cases c21 : bq20 = true
              ·
               subst c21
               have H1 : (if x8_2 < (x5_2.length : Int) then (if (rd x5_2 x8_2) = 0 then (dropperref05_live.l1 k2 a1 (x5_2.set (x8_2 : Int).toNat ((rd_T71 l0_2 x6_1).f1)) x6_1 t264 (wrap64 (x8_2 + 1)) a0_0 l0_1 l0_2) else (if (rd x5_2 x8_2) = ((rd_T71 l0_2 x6_1).f1) then (dropperref05_live.l1 k2 a1 x5_2 x6_1 t264 (wrap64 (x8_2 + 1)) a0_0 l0_1 l0_2) else (dropperref05_live.l1 k2 a1 (x5_2.set (x8_2 : Int).toNat (-1)) x6_1 t264 (wrap64 (x8_2 + 1)) a0_0 l0_1 l0_2))) else (none)) = some r := by rw [if_pos rfl] at H; exact H
               clear H
               have H := H1
               clear H1
               by_cases c22 : x8_2 < (x5_2.length : Int)
               ·
                rw [if_pos c22] at H
                have c22b0 : decide (x8_2 < (x5_2.length : Int)) = true := decide_eq_true c22
                clear c22
                by_cases c23 : (rd x5_2 x8_2) = 0
                ·
                 rw [if_pos c23] at H
                 have c23b0 : ((rd x5_2 x8_2) == 0) = true := beq_iff_eq.mpr c23
                 have c23b1 : ((rd x5_2 x8_2) != 0) = false := bne_eq_false_iff_eq.mpr c23
                 clear c23
                 obtain ⟨y270, hy270⟩ : ∃ y_ : List Int, y_ = (x5_2.set (x8_2 : Int).toNat ((rd_T71 l0_2 x6_1).f1)) := ⟨_, rfl⟩
                 replace H : (dropperref05_live.l1 k2 a1 y270 x6_1 t264 (wrap64 (x8_2 + 1)) a0_0 l0_1 l0_2) = some r := by first | (rw [hy270]; with_reducible exact H) | (have H2_ := (Option.bind_some _ _).symm.trans H; rw [hy270]; with_reducible exact H2_) | (have H2_ := (Option.bind_some _ _).symm.trans H; with_reducible exact H2_) | with_reducible exact H | (rw [hy270]; exact H) | exact H
                 have Ny270 := Aside0.mk hy270
                 clear hy270
                 have H' := Aside0.mk H
                 clear H
                 have hcz25_0 := blkc BK259.out 0 (.int .i64 a0_0) rfl
                 have hcz25_1 := blkc BK259.out 1 (.slice A0_1 l0_1.length c0_1) rfl
                 have hcz25_2 := blkc BK259.out 2 (.slice (some ad263) l0_2.length c0_2) rfl
                 have hfz25_0 := blk_frozen BK259.out 0
                 have hfz25_1 := blk_frozen BK259.out 1
                 have hfz25_2 := blk_frozen BK259.out 2
                 have p267 : 0 ≤ (x6_1 : Int) := of_decide_eq_true asz
                 have q267 : x6_1 < (l0_2.length : Int) := of_decide_eq_true asz
                 obtain ⟨ad267, e267, hx267_0, hx267_1⟩ := at_T71 HR0_2.out x6_1 p267 q267
                 obtain rfl : ad263 = ad267 := (by injection e267)
                 replace hx267_0 := (HB.out.cell (World.block_lt_of_cell? w _ hx267_0)).trans hx267_0
                 replace hx267_1 := (HB.out.cell (World.block_lt_of_cell? w _ hx267_1)).trans hx267_1
                 replace p267 := eq_true p267
                 replace q267 := eq_true q267
                 obtain ⟨Ao26, co26, eo26⟩ := Kd.R_slice HO_7.out
                 subst eo26
                 have p268 : 0 ≤ (x8_2 : Int) := of_decide_eq_true asz
                 have q268 : x8_2 < (t264.length : Int) := of_decide_eq_true asz
                 obtain ⟨ad268, e268, hx268_0⟩ := Kd.at_bool (Kd.R_reads' HO_7.out).2.2 x8_2 p268 q268
                 (try rw [← Nbq20.out] at hx268_0)
                 cases e268
                 replace p268 := eq_true p268
                 replace q268 := eq_true q268
                 obtain ⟨Ao27, co27, eo27⟩ := Kd.R_slice HO_5.out
                 subst eo27
                 have p269 : 0 ≤ (x8_2 : Int) := of_decide_eq_true asz
                 have q269 : x8_2 < (x5_2.length : Int) := of_decide_eq_true asz
                 obtain ⟨ad269, e269, hx269_0⟩ := Kd.at_int (Kd.R_reads' HO_5.out).2.2 x8_2 p269 q269
                 cases e269
                 replace p269 := eq_true p269
                 replace q269 := eq_true q269
                 have p24 : 0 ≤ (x8_2 : Int) := of_decide_eq_true asz
                 have q24 : (x8_2 : Int) < ((x5_2.length : Int) : Int) := of_decide_eq_true asz
                 obtain ⟨go24, co24, eo24, gb24, gl24, cl24, HG24⟩ := Kd.R_form HO_5.out (by omega)
                 (first | cases eo24 | (injection eo24 with ea_ en_ ec_; (first | subst ea_ | (injection ea_ with ea_; subst ea_)); subst ec_; clear en_))
                 have GB24 := Aside0.mk gb24
                 have GG24 := Aside0.mk HG24
                 clear gb24 gl24 HG24
                 (first | simp only [add_plain] at hx269_0 | skip)
                 obtain ⟨hx24_0, hf24_0⟩ := Kd.R_celln 0 HO_5.out (x8_2 : Int) p24 q24
                 replace p24 := eq_true p24
                 replace q24 := eq_true q24
                 have HP28 := Kd.R_putg HO_5.out (x8_2 : Int) ((rd_T71 l0_2 x6_1).f1)
                 go_wp2_with (first | ((with_reducible refine gate_store (t := 3) (p := 56) rfl ?_); refine store_event (t := 3) (p := 56) (v := ?vo_w29) (w1 := (wr.setCell ⟨go24, (x8_2 : Int).toNat, none⟩ (.int .i64 ((rd_T71 l0_2 x6_1).f1)))) ?hg ?ho ?hn ?hr ?_; (case ho => rfl); (case hg => rfl); (case hn => rfl); (case hr => first | (go_simp; done) | (go_simp; rfl)); intro w29 hw; have hg : wr.grownBy w29 (some go24) := (by rw [hw]; exact HP28.2); have hp_ : Kd.R (Kd.int .i64) 3 w29 w.heap.size (fun _ => True) (.slice (some ⟨go24, 0, none⟩) x5_2.length co27) y270 := (by rw [hw, Ny270.out]; exact HP28.1); clear HP28; replace HO_7 := Aside0.mk (Kd.R_over' (v := (.slice (some ⟨go24, 0, none⟩) x5_2.length co27)) (ownx HO_7) (Kd.R_typed HO_5.out) (by decide) hg); replace BK259 := Aside0.mk (blk_grown (g := gb259) (o := .cells #[.int .i64 a0_0, .slice A0_1 l0_1.length c0_1, .slice (some ad263) l0_2.length c0_2] 25 (0, 0)) blkz hg (Kd.R_ne HO_5.out BK259.out (by decide))); replace HO_5 := Aside0.mk (hp_); replace HB := Aside0.mk ((by rw [hw]; exact below_set (HB.out) GB24.out : Below w.heap.size w w29)); clear hg hw hp_))
                 go_roundg k2
                 case measure => have := HK1.out; have := HK2.out; omega
                 case rel => exact ⟨(y270), (wrap64 (x8_2 + 1)), rsz, H', ⟨by have := HK1.out; have := HK2.out; omega⟩, ⟨by (with_reducible repeat (first | apply Kd.R_alloc | apply Kd.R_drewN | apply Kd.R_drew)); exact HO_5.out⟩, ⟨by (with_reducible repeat (first | apply Kd.R_alloc | apply Kd.R_drewN | apply Kd.R_drew)); exact HO_7.out⟩, ⟨blkz⟩, ⟨bel⟩⟩
                ·
                 rw [if_neg c23] at H
                 have c23b0 : ((rd x5_2 x8_2) == 0) = false := beq_eq_false_iff_ne.mpr c23
                 have c23b1 : ((rd x5_2 x8_2) != 0) = true := bne_iff_ne.mpr c23
                 by_cases c30 : (rd x5_2 x8_2) = ((rd_T71 l0_2 x6_1).f1)
                 ·
                  rw [if_pos c30] at H
                  have c30b0 : ((rd x5_2 x8_2) == ((rd_T71 l0_2 x6_1).f1)) = true := beq_iff_eq.mpr c30
                  have c30b1 : ((rd x5_2 x8_2) != ((rd_T71 l0_2 x6_1).f1)) = false := bne_eq_false_iff_eq.mpr c30
                  clear c30
                  have H' := Aside0.mk H
                  clear H
                  have hcz31_0 := blkc BK259.out 0 (.int .i64 a0_0) rfl
                  have hcz31_1 := blkc BK259.out 1 (.slice A0_1 l0_1.length c0_1) rfl
                  have hcz31_2 := blkc BK259.out 2 (.slice (some ad263) l0_2.length c0_2) rfl
                  have hfz31_0 := blk_frozen BK259.out 0
                  have hfz31_1 := blk_frozen BK259.out 1
                  have hfz31_2 := blk_frozen BK259.out 2
                  have p267 : 0 ≤ (x6_1 : Int) := of_decide_eq_true asz
                  have q267 : x6_1 < (l0_2.length : Int) := of_decide_eq_true asz
                  obtain ⟨ad267, e267, hx267_0, hx267_1⟩ := at_T71 HR0_2.out x6_1 p267 q267
                  obtain rfl : ad263 = ad267 := (by injection e267)
                  replace hx267_0 := (HB.out.cell (World.block_lt_of_cell? w _ hx267_0)).trans hx267_0
                  replace hx267_1 := (HB.out.cell (World.block_lt_of_cell? w _ hx267_1)).trans hx267_1
                  replace p267 := eq_true p267
                  replace q267 := eq_true q267
                  obtain ⟨Ao32, co32, eo32⟩ := Kd.R_slice HO_7.out
                  subst eo32
                  have p268 : 0 ≤ (x8_2 : Int) := of_decide_eq_true asz
                  have q268 : x8_2 < (t264.length : Int) := of_decide_eq_true asz
                  obtain ⟨ad268, e268, hx268_0⟩ := Kd.at_bool (Kd.R_reads' HO_7.out).2.2 x8_2 p268 q268
                  (try rw [← Nbq20.out] at hx268_0)
                  cases e268
                  replace p268 := eq_true p268
                  replace q268 := eq_true q268
                  obtain ⟨Ao33, co33, eo33⟩ := Kd.R_slice HO_5.out
                  subst eo33
                  have p269 : 0 ≤ (x8_2 : Int) := of_decide_eq_true asz
                  have q269 : x8_2 < (x5_2.length : Int) := of_decide_eq_true asz
                  obtain ⟨ad269, e269, hx269_0⟩ := Kd.at_int (Kd.R_reads' HO_5.out).2.2 x8_2 p269 q269
                  cases e269
                  replace p269 := eq_true p269
                  replace q269 := eq_true q269
                  have p271 : 0 ≤ (x8_2 : Int) := of_decide_eq_true asz
                  have q271 : x8_2 < (x5_2.length : Int) := of_decide_eq_true asz
                  obtain ⟨ad271, e271, hx271_0⟩ := Kd.at_int (Kd.R_reads' HO_5.out).2.2 x8_2 p271 q271
                  obtain rfl : ad269 = ad271 := (by injection e271)
                  replace p271 := eq_true p271
                  replace q271 := eq_true q271
                  go_wp2
                  go_roundg k2
                  case measure => have := HK1.out; have := HK2.out; omega
                  case rel => exact ⟨(x5_2), (wrap64 (x8_2 + 1)), rsz, H', ⟨by have := HK1.out; have := HK2.out; omega⟩, ⟨by (with_reducible repeat (first | apply Kd.R_alloc | apply Kd.R_drewN | apply Kd.R_drew)); exact HO_5.out⟩, ⟨by (with_reducible repeat (first | apply Kd.R_alloc | apply Kd.R_drewN | apply Kd.R_drew)); exact HO_7.out⟩, ⟨blkz⟩, ⟨bel⟩⟩
                 ·
                  rw [if_neg c30] at H
                  have c30b0 : ((rd x5_2 x8_2) == ((rd_T71 l0_2 x6_1).f1)) = false := beq_eq_false_iff_ne.mpr c30
                  have c30b1 : ((rd x5_2 x8_2) != ((rd_T71 l0_2 x6_1).f1)) = true := bne_iff_ne.mpr c30
                  obtain ⟨y272, hy272⟩ : ∃ y_ : List Int, y_ = (x5_2.set (x8_2 : Int).toNat (-1)) := ⟨_, rfl⟩
                  replace H : (dropperref05_live.l1 k2 a1 y272 x6_1 t264 (wrap64 (x8_2 + 1)) a0_0 l0_1 l0_2) = some r := by first | (rw [hy272]; with_reducible exact H) | (have H2_ := (Option.bind_some _ _).symm.trans H; rw [hy272]; with_reducible exact H2_) | (have H2_ := (Option.bind_some _ _).symm.trans H; with_reducible exact H2_) | with_reducible exact H | (rw [hy272]; exact H) | exact H
                  have Ny272 := Aside0.mk hy272
                  clear hy272
                  have H' := Aside0.mk H
                  clear H
                  have hcz35_0 := blkc BK259.out 0 (.int .i64 a0_0) rfl
                  have hcz35_1 := blkc BK259.out 1 (.slice A0_1 l0_1.length c0_1) rfl
                  have hcz35_2 := blkc BK259.out 2 (.slice (some ad263) l0_2.length c0_2) rfl
                  have hfz35_0 := blk_frozen BK259.out 0
                  have hfz35_1 := blk_frozen BK259.out 1
                  have hfz35_2 := blk_frozen BK259.out 2
                  have p267 : 0 ≤ (x6_1 : Int) := of_decide_eq_true asz
                  have q267 : x6_1 < (l0_2.length : Int) := of_decide_eq_true asz
                  obtain ⟨ad267, e267, hx267_0, hx267_1⟩ := at_T71 HR0_2.out x6_1 p267 q267
                  obtain rfl : ad263 = ad267 := (by injection e267)
                  replace hx267_0 := (HB.out.cell (World.block_lt_of_cell? w _ hx267_0)).trans hx267_0
                  replace hx267_1 := (HB.out.cell (World.block_lt_of_cell? w _ hx267_1)).trans hx267_1
                  replace p267 := eq_true p267
                  replace q267 := eq_true q267
                  obtain ⟨Ao36, co36, eo36⟩ := Kd.R_slice HO_7.out
                  subst eo36
                  have p268 : 0 ≤ (x8_2 : Int) := of_decide_eq_true asz
                  have q268 : x8_2 < (t264.length : Int) := of_decide_eq_true asz
                  obtain ⟨ad268, e268, hx268_0⟩ := Kd.at_bool (Kd.R_reads' HO_7.out).2.2 x8_2 p268 q268
                  (try rw [← Nbq20.out] at hx268_0)
                  cases e268
                  replace p268 := eq_true p268
                  replace q268 := eq_true q268
                  obtain ⟨Ao37, co37, eo37⟩ := Kd.R_slice HO_5.out
                  subst eo37
                  have p269 : 0 ≤ (x8_2 : Int) := of_decide_eq_true asz
                  have q269 : x8_2 < (x5_2.length : Int) := of_decide_eq_true asz
                  obtain ⟨ad269, e269, hx269_0⟩ := Kd.at_int (Kd.R_reads' HO_5.out).2.2 x8_2 p269 q269
                  cases e269
                  replace p269 := eq_true p269
                  replace q269 := eq_true q269
                  have p271 : 0 ≤ (x8_2 : Int) := of_decide_eq_true asz
                  have q271 : x8_2 < (x5_2.length : Int) := of_decide_eq_true asz
                  obtain ⟨ad271, e271, hx271_0⟩ := Kd.at_int (Kd.R_reads' HO_5.out).2.2 x8_2 p271 q271
                  obtain rfl : ad269 = ad271 := (by injection e271)
                  replace p271 := eq_true p271
                  replace q271 := eq_true q271
                  have p34 : 0 ≤ (x8_2 : Int) := of_decide_eq_true asz
                  have q34 : (x8_2 : Int) < ((x5_2.length : Int) : Int) := of_decide_eq_true asz
                  obtain ⟨go34, co34, eo34, gb34, gl34, cl34, HG34⟩ := Kd.R_form HO_5.out (by omega)
                  (first | cases eo34 | (injection eo34 with ea_ en_ ec_; (first | subst ea_ | (injection ea_ with ea_; subst ea_)); subst ec_; clear en_))
                  have GB34 := Aside0.mk gb34
                  have GG34 := Aside0.mk HG34
                  clear gb34 gl34 HG34
                  (first | simp only [add_plain] at hx269_0 | skip)
                  (first | simp only [add_plain] at hx271_0 | skip)
                  obtain ⟨hx34_0, hf34_0⟩ := Kd.R_celln 0 HO_5.out (x8_2 : Int) p34 q34
                  replace p34 := eq_true p34
                  replace q34 := eq_true q34
                  have HP38 := Kd.R_putg HO_5.out (x8_2 : Int) (-1)
                  go_wp2_with (first | ((with_reducible refine gate_store (t := 3) (p := 66) rfl ?_); refine store_event (t := 3) (p := 66) (v := ?vo_w39) (w1 := (wr.setCell ⟨go34, (x8_2 : Int).toNat, none⟩ (.int .i64 (-1)))) ?hg ?ho ?hn ?hr ?_; (case ho => rfl); (case hg => rfl); (case hn => rfl); (case hr => first | (go_simp; done) | (go_simp; rfl)); intro w39 hw; have hg : wr.grownBy w39 (some go34) := (by rw [hw]; exact HP38.2); have hp_ : Kd.R (Kd.int .i64) 3 w39 w.heap.size (fun _ => True) (.slice (some ⟨go34, 0, none⟩) x5_2.length co37) y272 := (by rw [hw, Ny272.out]; exact HP38.1); clear HP38; replace HO_7 := Aside0.mk (Kd.R_over' (v := (.slice (some ⟨go34, 0, none⟩) x5_2.length co37)) (ownx HO_7) (Kd.R_typed HO_5.out) (by decide) hg); replace BK259 := Aside0.mk (blk_grown (g := gb259) (o := .cells #[.int .i64 a0_0, .slice A0_1 l0_1.length c0_1, .slice (some ad263) l0_2.length c0_2] 25 (0, 0)) blkz hg (Kd.R_ne HO_5.out BK259.out (by decide))); replace HO_5 := Aside0.mk (hp_); replace HB := Aside0.mk ((by rw [hw]; exact below_set (HB.out) GB34.out : Below w.heap.size w w39)); clear hg hw hp_))
                  go_roundg k2
                  case measure => have := HK1.out; have := HK2.out; omega
                  case rel => exact ⟨(y272), (wrap64 (x8_2 + 1)), rsz, H', ⟨by have := HK1.out; have := HK2.out; omega⟩, ⟨by (with_reducible repeat (first | apply Kd.R_alloc | apply Kd.R_drewN | apply Kd.R_drew)); exact HO_5.out⟩, ⟨by (with_reducible repeat (first | apply Kd.R_alloc | apply Kd.R_drewN | apply Kd.R_drew)); exact HO_7.out⟩, ⟨blkz⟩, ⟨bel⟩⟩
               ·
                rw [if_neg c22] at H
                exact absurd H (by simp)
              ·
               replace c21 := Bool.eq_false_iff.mpr c21
               subst c21
               have H1 : (dropperref05_live.l1 k2 a1 x5_2 x6_1 t264 (wrap64 (x8_2 + 1)) a0_0 l0_1 l0_2) = some r := by rw [if_neg (show ¬ (false = true) by decide)] at H; exact H
               clear H
               have H := H1
               clear H1
               have H' := Aside0.mk H
               clear H
               have hcz40_0 := blkc BK259.out 0 (.int .i64 a0_0) rfl
               have hcz40_1 := blkc BK259.out 1 (.slice A0_1 l0_1.length c0_1) rfl
               have hcz40_2 := blkc BK259.out 2 (.slice (some ad263) l0_2.length c0_2) rfl
               have hfz40_0 := blk_frozen BK259.out 0
               have hfz40_1 := blk_frozen BK259.out 1
               have hfz40_2 := blk_frozen BK259.out 2
               have p267 : 0 ≤ (x6_1 : Int) := of_decide_eq_true asz
               have q267 : x6_1 < (l0_2.length : Int) := of_decide_eq_true asz
               obtain ⟨ad267, e267, hx267_0, hx267_1⟩ := at_T71 HR0_2.out x6_1 p267 q267
               obtain rfl : ad263 = ad267 := (by injection e267)
               replace hx267_0 := (HB.out.cell (World.block_lt_of_cell? w _ hx267_0)).trans hx267_0
               replace hx267_1 := (HB.out.cell (World.block_lt_of_cell? w _ hx267_1)).trans hx267_1
               replace p267 := eq_true p267
               replace q267 := eq_true q267
               obtain ⟨Ao41, co41, eo41⟩ := Kd.R_slice HO_7.out
               subst eo41
               have p268 : 0 ≤ (x8_2 : Int) := of_decide_eq_true asz
               have q268 : x8_2 < (t264.length : Int) := of_decide_eq_true asz
               obtain ⟨ad268, e268, hx268_0⟩ := Kd.at_bool (Kd.R_reads' HO_7.out).2.2 x8_2 p268 q268
               (try rw [← Nbq20.out] at hx268_0)
               cases e268
               replace p268 := eq_true p268
               replace q268 := eq_true q268
               go_wp2
               go_roundg k2
               case measure => have := HK1.out; have := HK2.out; omega
               case rel => exact ⟨(x5_2), (wrap64 (x8_2 + 1)), rsz, H', ⟨by have := HK1.out; have := HK2.out; omega⟩, ⟨by (with_reducible repeat (first | apply Kd.R_alloc | apply Kd.R_drewN | apply Kd.R_drew)); exact HO_5.out⟩, ⟨by (with_reducible repeat (first | apply Kd.R_alloc | apply Kd.R_drewN | apply Kd.R_drew)); exact HO_7.out⟩, ⟨blkz⟩, ⟨bel⟩⟩
             ·
              rw [if_neg c19] at H
              exact absurd H (by simp)
            ·
             rw [if_neg c18] at H
             exact absurd H (by simp)
           ·
            rw [if_neg c17] at H
            exact absurd H (by simp)
          ·
           rw [if_neg c16] at H
           exact absurd H (by simp)
         ·
          rw [if_neg c15] at H
          have c15b0 : decide (x8_2 < a0_0) = false := decide_eq_false c15
          clear c15
          have H' := Aside0.mk H
          clear H
          have hcz42_0 := blkc BK259.out 0 (.int .i64 a0_0) rfl
          have hcz42_1 := blkc BK259.out 1 (.slice A0_1 l0_1.length c0_1) rfl
          have hcz42_2 := blkc BK259.out 2 (.slice (some ad263) l0_2.length c0_2) rfl
          have hfz42_0 := blk_frozen BK259.out 0
          have hfz42_1 := blk_frozen BK259.out 1
          have hfz42_2 := blk_frozen BK259.out 2
          go_wp2
          go_roundg k2
          case measure => have := HK1.out; have := HK2.out; omega
          case rel => exact ⟨(x5_2), (wrap64 (x6_1 + 1)), rsz, H', ⟨by have := HK1.out; have := HK2.out; omega⟩, ⟨by (with_reducible repeat (first | apply Kd.R_alloc | apply Kd.R_drewN | apply Kd.R_drew)); exact HO_5.out⟩, ⟨blkz⟩, ⟨bel⟩⟩
      ·
       rw [if_neg c10] at H
       exact absurd H (by simp)
     ·
      rw [if_neg c9] at H
      have c9b0 : decide (x6_1 < (l0_2.length : Int)) = false := decide_eq_false c9
      clear c9
      obtain rfl := Option.some.inj H
      have hcz43_0 := blkc BK259.out 0 (.int .i64 a0_0) rfl
      have hcz43_1 := blkc BK259.out 1 (.slice A0_1 l0_1.length c0_1) rfl
      have hcz43_2 := blkc BK259.out 2 (.slice A0_2 l0_2.length c0_2) rfl
      have hfz43_0 := blk_frozen BK259.out 0
      have hfz43_1 := blk_frozen BK259.out 1
      have hfz43_2 := blk_frozen BK259.out 2
      go_wp2
      go_ret
      exact ⟨_, ezz, by (with_reducible repeat (first | apply Kd.R_alloc | apply Kd.R_drewN | apply Kd.R_drew)); exact HO_5.out, bel⟩
  ·
   rw [if_neg c4] at H
   exact absurd H (by simp)
 ·
  rw [if_neg c3] at H
  exact absurd H (by simp)

/-! ### dropperref05_right: function 51 -/
def dropperref05_right.l0 : Nat → List Int → Int → Int → List (S69) → List (S71) → Option (Bool)
 | 0, _, _, _, _, _ => none
 | k + 1, x5, x6, x290000, x290001, x290002 => if x6 < x290000 then (if 0 ≤ x6 then (if x6 < (x5.length : Int) then (if (rd x5 x6) < 0 then (some false) else (dropperref05_right.l0 k x5 (wrap64 (x6 + 1)) x290000 x290001 x290002)) else (none)) else (none)) else (some true)
def dropperref05_right.f (k : Nat) (a0_0 : Int) (l0_1 : List (S69)) (l0_2 : List (S71)) (a1 : Int) : Option (Bool) := (dropperref05_live.f k a0_0 l0_1 l0_2 a1).bind fun t290 => (dropperref05_right.l0 k t290 0 a0_0 l0_1 l0_2)
theorem dropperref05_right.mono_l : ∀ k, (∀ y0 y1 y2 y3 y4, LeO (dropperref05_right.l0 k y0 y1 y2 y3 y4) (dropperref05_right.l0 (k + 1) y0 y1 y2 y3 y4))
 | 0 => fun _ _ _ _ _ r h => by simp [dropperref05_right.l0] at h
 | k + 1 => by
  have ih0 := dropperref05_right.mono_l k
  ·
   intro y0 y1 y2 y3 y4
   unfold dropperref05_right.l0
   repeat' first
   | (with_reducible exact ih0 _ _ _ _ _)
   | (with_reducible exact dropperref05_live.mono _ _ _ _ _)
   | (with_reducible exact LeO.refl _)
   | (with_reducible exact LeO.none _)
   | (with_reducible refine LeO.ite ?_ ?_)
   | (with_reducible refine LeO.bind ?_ (fun _ => ?_))
   | exact ih0 _ _ _ _ _
   | exact dropperref05_live.mono _ _ _ _ _
   | exact LeO.none _
   | refine LeO.ite ?_ ?_
   | refine LeO.bind ?_ (fun _ => ?_)
theorem dropperref05_right.mono : ∀ a0 a1 a2 a3 k, LeO (dropperref05_right.f k a0 a1 a2 a3) (dropperref05_right.f (k + 1) a0 a1 a2 a3) := by
 intro a0 a1 a2 a3 k
 have ih0 := dropperref05_right.mono_l k
 unfold dropperref05_right.f
 repeat' first
   | (with_reducible exact ih0 _ _ _ _ _)
   | (with_reducible exact dropperref05_live.mono _ _ _ _ _)
   | (with_reducible exact LeO.refl _)
   | (with_reducible exact LeO.none _)
   | (with_reducible refine LeO.ite ?_ ?_)
   | (with_reducible refine LeO.bind ?_ (fun _ => ?_))
   | exact ih0 _ _ _ _ _
   | exact dropperref05_live.mono _ _ _ _ _
   | exact LeO.none _
   | refine LeO.ite ?_ ?_
   | refine LeO.bind ?_ (fun _ => ?_)
set_option maxHeartbeats 8000000 in
set_option maxRecDepth 100000 in
theorem dropperref05_right.calls (k : Nat) (a0_0 : Int) (A0_1 : Option Addr) (c0_1 : Nat) (l0_1 : List (S69)) (A0_2 : Option Addr) (c0_2 : Nat) (l0_2 : List (S71)) (a1 : Int) (r : Bool) (w : World) (hr0_1 : Kd.C k69 w A0_1 l0_1.length l0_1) (hc0_1 : l0_1.length ≤ c0_1) (hr0_2 : Kd.C k71 w A0_2 l0_2.length l0_2) (hc0_2 : l0_2.length ≤ c0_2) (h : dropperref05_right.f k a0_0 l0_1 l0_2 a1 = some r) :
  Calls Tryd.prog 51 #[.agg #[.int .i64 a0_0, .slice A0_1 l0_1.length c0_1, .slice A0_2 l0_2.length c0_2], .int .i64 a1] w fun e w' => e = .returned (.bool r) ∧ Below w.heap.size w w' := by
 have hu25 := Tryd.underlying25
 have HR0_1 := Aside0.mk hr0_1
 have HC0_1 := Aside0.mk hc0_1
 clear hr0_1 hc0_1
 have HR0_2 := Aside0.mk hr0_2
 have HC0_2 := Aside0.mk hc0_2
 clear hr0_2 hc0_2
 have HB := Aside0.mk (Below.refl w.heap.size w)
 have H : ((dropperref05_live.f k a0_0 l0_1 l0_2 a1).bind fun t290 => (dropperref05_right.l0 k t290 0 a0_0 l0_1 l0_2)) = some r := h
 clear h
 replace H := Option.bind_eq_some_iff.mp H
 obtain ⟨t290, A30, H⟩ := H
 replace H : (dropperref05_right.l0 k t290 0 a0_0 l0_1 l0_2) = some r := H
 have A3 := Aside0.mk A30
 clear A30
 have H' := Aside0.mk H
 clear H
 go_enter Tryd.func51, Tryd.ntmps51
 go_wp2_with (first | ((with_reducible refine gate_dst (N := 2) rfl ?_); refine box_event ?hg (N := 2) ?hd (cs := #[.int .i64 a0_0, .slice A0_1 l0_1.length c0_1, .slice A0_2 l0_2.length c0_2]) (t := 25) ?hr ?_; (case hd => rfl); (case hg => rfl); (case hr => first | (go_simp; done) | (go_simp; rfl)); intro gb289 hg w4 hbox hb; have BK289 := Aside0.mk (hbox); have GW289 := bsz (w := w) hg; have GE289 := GW289; replace HB := Aside0.mk (below_step bel hb); clear hb hbox hg; have hcz5_0 := blkc BK289.out 0 (.int .i64 a0_0) rfl; have hcz5_1 := blkc BK289.out 1 (.slice A0_1 l0_1.length c0_1) rfl; have hcz5_2 := blkc BK289.out 2 (.slice A0_2 l0_2.length c0_2) rfl) | ((with_reducible refine gate_callee (f := 49) rfl ?_); refine goesL_ (some 9) rfl rfl Tryd.func49 (by kernel_rfl) rfl #[.agg #[.int .i64 a0_0, .slice A0_1 l0_1.length c0_1, .slice A0_2 l0_2.length c0_2], .int .i64 a1] rfl mapz ?_; (with_reducible refine (dropperref05_live.calls k a0_0 _ _ l0_1 _ _ l0_2 a1 t290 _ ?side1 ?side2 ?side3 ?side4 A3.out).mono ?_); (case side1 => exact cbz HR0_1); (case side2 => exact HC0_1.out); (case side3 => exact cbz HR0_2); (case side4 => exact HC0_2.out); rintro e w6 ⟨v291, rfl, ho0, hb⟩; refine ⟨_, rfl, ?_⟩; have HO292 := Aside0.mk (Kd.R_lower ho0 (below_size bel)); replace BK289 := Aside0.mk (blk_below (g := gb289) blkz hb); replace HB := Aside0.mk (below_step bel hb); (try clear hb); (try clear hb2); (try clear hk); (try clear hi); (try clear ho0)))
 go_loopg [6] k (fun kq v6 w' => ∃ (x6_1 : Int), v6 = .int .i64 x6_1 ∧ Aside0 (dropperref05_right.l0 kq t290 x6_1 a0_0 l0_1 l0_2 = some r) ∧ Aside0 (kq ≤ k) ∧ Aside0 (Kd.R (Kd.int .i64) 3 w' w.heap.size (fun _ => True) v291 t290) ∧ Aside0 (w'.heap[gb289]? = some (.cells #[.int .i64 a0_0, (.slice A0_1 l0_1.length c0_1), (.slice A0_2 l0_2.length c0_2)] 25 (0, 0))) ∧ Aside0 (Below w.heap.size w w'))
 case atStart => exact ⟨(0), rsz, H', ⟨Nat.le_refl _⟩, ⟨by (with_reducible repeat (first | apply Kd.R_alloc | apply Kd.R_drewN | apply Kd.R_drew)); exact HO292.out⟩, ⟨blkz⟩, ⟨bel⟩⟩
 case round =>
  clear H'
  try clear p2
  try clear c4
  try clear c5
  try clear hcz5_0
  try clear hcz5_1
  try clear hcz5_2
  try clear hfz5_0
  try clear hfz5_1
  try clear hfz5_2
  obtain ⟨x6_1, rfl, HA, HK1, HO_5, BK289, HB⟩ := hrel
  cases gk with
  | zero => exact absurd HA.out (by simp [dropperref05_right.l0])
  | succ k1 =>
   have H := HA.out
   clear HA
   simp only [dropperref05_right.l0] at H
   by_cases c7 : x6_1 < a0_0
   ·
    rw [if_pos c7] at H
    have c7b0 : decide (x6_1 < a0_0) = true := decide_eq_true c7
    clear c7
    by_cases c8 : 0 ≤ x6_1
    ·
     rw [if_pos c8] at H
     have c8b0 : decide (0 ≤ x6_1) = true := decide_eq_true c8
     clear c8
     by_cases c9 : x6_1 < (t290.length : Int)
     ·
      rw [if_pos c9] at H
      have c9b0 : decide (x6_1 < (t290.length : Int)) = true := decide_eq_true c9
      clear c9
      by_cases c10 : (rd t290 x6_1) < 0
      ·
       rw [if_pos c10] at H
       have c10b0 : decide ((rd t290 x6_1) < 0) = true := decide_eq_true c10
       clear c10
       obtain rfl := Option.some.inj H
       have hcz11_0 := blkc BK289.out 0 (.int .i64 a0_0) rfl
       have hcz11_1 := blkc BK289.out 1 (.slice A0_1 l0_1.length c0_1) rfl
       have hcz11_2 := blkc BK289.out 2 (.slice A0_2 l0_2.length c0_2) rfl
       have hfz11_0 := blk_frozen BK289.out 0
       have hfz11_1 := blk_frozen BK289.out 1
       have hfz11_2 := blk_frozen BK289.out 2
       obtain ⟨Ao12, co12, eo12⟩ := Kd.R_slice HO_5.out
       subst eo12
       have p293 : 0 ≤ (x6_1 : Int) := of_decide_eq_true asz
       have q293 : x6_1 < (t290.length : Int) := of_decide_eq_true asz
       obtain ⟨ad293, e293, hx293_0⟩ := Kd.at_int (Kd.R_reads' HO_5.out).2.2 x6_1 p293 q293
       cases e293
       replace p293 := eq_true p293
       replace q293 := eq_true q293
       go_wp2
       go_ret
       exact ⟨ezz, bel⟩
      ·
       rw [if_neg c10] at H
       have c10b0 : decide ((rd t290 x6_1) < 0) = false := decide_eq_false c10
       clear c10
       have H' := Aside0.mk H
       clear H
       have hcz13_0 := blkc BK289.out 0 (.int .i64 a0_0) rfl
       have hcz13_1 := blkc BK289.out 1 (.slice A0_1 l0_1.length c0_1) rfl
       have hcz13_2 := blkc BK289.out 2 (.slice A0_2 l0_2.length c0_2) rfl
       have hfz13_0 := blk_frozen BK289.out 0
       have hfz13_1 := blk_frozen BK289.out 1
       have hfz13_2 := blk_frozen BK289.out 2
       obtain ⟨Ao14, co14, eo14⟩ := Kd.R_slice HO_5.out
       subst eo14
       have p293 : 0 ≤ (x6_1 : Int) := of_decide_eq_true asz
       have q293 : x6_1 < (t290.length : Int) := of_decide_eq_true asz
       obtain ⟨ad293, e293, hx293_0⟩ := Kd.at_int (Kd.R_reads' HO_5.out).2.2 x6_1 p293 q293
       cases e293
       replace p293 := eq_true p293
       replace q293 := eq_true q293
       go_wp2
       go_roundg k1
       case measure => have := HK1.out; omega
       case rel => exact ⟨(wrap64 (x6_1 + 1)), rsz, H', ⟨by have := HK1.out; omega⟩, ⟨by (with_reducible repeat (first | apply Kd.R_alloc | apply Kd.R_drewN | apply Kd.R_drew)); exact HO_5.out⟩, ⟨blkz⟩, ⟨bel⟩⟩
     ·
      rw [if_neg c9] at H
      exact absurd H (by simp)
    ·
     rw [if_neg c8] at H
     exact absurd H (by simp)
   ·
    rw [if_neg c7] at H
    have c7b0 : decide (x6_1 < a0_0) = false := decide_eq_false c7
    clear c7
    obtain rfl := Option.some.inj H
    have hcz15_0 := blkc BK289.out 0 (.int .i64 a0_0) rfl
    have hcz15_1 := blkc BK289.out 1 (.slice A0_1 l0_1.length c0_1) rfl
    have hcz15_2 := blkc BK289.out 2 (.slice A0_2 l0_2.length c0_2) rfl
    have hfz15_0 := blk_frozen BK289.out 0
    have hfz15_1 := blk_frozen BK289.out 1
    have hfz15_2 := blk_frozen BK289.out 2
    go_wp2
    go_ret
    exact ⟨ezz, bel⟩

/-! ### dropperref05_Good: function 74 -/
mutual
def dropperref05_Good.j0 : Nat → Int → List Int → Bool → Int → List (S69) → List (S71) → Option (Bool)
 | 0, _, _, _, _, _, _ => none
 | k + 1, x1, x2, x18, x511000, x511001, x511002 => if x18 = true then (some false) else ((dropperref05_live.f k x511000 x511001 x511002 x1).bind fun t513 => (dropperref05_Good.l0 k x2 t513 0))
def dropperref05_Good.l0 : Nat → List Int → List Int → Int → Option (Bool)
 | 0, _, _, _ => none
 | k + 1, x2, x7, x8 => if x8 < (x2.length : Int) then (if 0 ≤ x8 then (if 0 ≤ (rd x2 x8) then (if (rd x2 x8) < (x7.length : Int) then (if (rd x7 (rd x2 x8)) = 0 then (some false) else (dropperref05_Good.l0 k x2 x7 (wrap64 (x8 + 1)))) else (none)) else (none)) else (none)) else (some true)
end
def dropperref05_Good.f (k : Nat) (a0_0 : Int) (l0_1 : List (S69)) (l0_2 : List (S71)) (a1 : Int) (l2 : List Int) : Option (Bool) := (dropperref05_IsState.f a0_0 l0_1 l0_2 a1).bind fun t511 => (if t511 = true then ((dropperref05_right.f k a0_0 l0_1 l0_2 a1).bind fun t512 => (dropperref05_Good.j0 k a1 l2 (!t512) a0_0 l0_1 l0_2)) else (dropperref05_Good.j0 k a1 l2 true a0_0 l0_1 l0_2))
theorem dropperref05_Good.mono_l : ∀ k, (∀ y0 y1 y2 y3 y4 y5, LeO (dropperref05_Good.j0 k y0 y1 y2 y3 y4 y5) (dropperref05_Good.j0 (k + 1) y0 y1 y2 y3 y4 y5)) ∧ (∀ y0 y1 y2, LeO (dropperref05_Good.l0 k y0 y1 y2) (dropperref05_Good.l0 (k + 1) y0 y1 y2))
 | 0 => ⟨fun _ _ _ _ _ _ r h => by simp [dropperref05_Good.j0] at h, fun _ _ _ r h => by simp [dropperref05_Good.l0] at h⟩
 | k + 1 => by
  obtain ⟨ih0, ih1⟩ := dropperref05_Good.mono_l k
  refine ⟨?_, ?_⟩
  ·
   intro y0 y1 y2 y3 y4 y5
   unfold dropperref05_Good.j0
   repeat' first
   | (with_reducible exact ih0 _ _ _ _ _ _)
   | (with_reducible exact ih1 _ _ _)
   | (with_reducible exact dropperref05_live.mono _ _ _ _ _)
   | (with_reducible exact dropperref05_right.mono _ _ _ _ _)
   | (with_reducible exact LeO.refl _)
   | (with_reducible exact LeO.none _)
   | (with_reducible refine LeO.ite ?_ ?_)
   | (with_reducible refine LeO.bind ?_ (fun _ => ?_))
   | exact ih0 _ _ _ _ _ _
   | exact ih1 _ _ _
   | exact dropperref05_live.mono _ _ _ _ _
   | exact dropperref05_right.mono _ _ _ _ _
   | exact LeO.none _
   | refine LeO.ite ?_ ?_
   | refine LeO.bind ?_ (fun _ => ?_)
  ·
   intro y0 y1 y2
   unfold dropperref05_Good.l0
   repeat' first
   | (with_reducible exact ih0 _ _ _ _ _ _)
   | (with_reducible exact ih1 _ _ _)
   | (with_reducible exact dropperref05_live.mono _ _ _ _ _)
   | (with_reducible exact dropperref05_right.mono _ _ _ _ _)
   | (with_reducible exact LeO.refl _)
   | (with_reducible exact LeO.none _)
   | (with_reducible refine LeO.ite ?_ ?_)
   | (with_reducible refine LeO.bind ?_ (fun _ => ?_))
   | exact ih0 _ _ _ _ _ _
   | exact ih1 _ _ _
   | exact dropperref05_live.mono _ _ _ _ _
   | exact dropperref05_right.mono _ _ _ _ _
   | exact LeO.none _
   | refine LeO.ite ?_ ?_
   | refine LeO.bind ?_ (fun _ => ?_)
theorem dropperref05_Good.mono : ∀ a0 a1 a2 a3 a4 k, LeO (dropperref05_Good.f k a0 a1 a2 a3 a4) (dropperref05_Good.f (k + 1) a0 a1 a2 a3 a4) := by
 intro a0 a1 a2 a3 a4 k
 obtain ⟨ih0, ih1⟩ := dropperref05_Good.mono_l k
 unfold dropperref05_Good.f
 repeat' first
   | (with_reducible exact ih0 _ _ _ _ _ _)
   | (with_reducible exact ih1 _ _ _)
   | (with_reducible exact dropperref05_live.mono _ _ _ _ _)
   | (with_reducible exact dropperref05_right.mono _ _ _ _ _)
   | (with_reducible exact LeO.refl _)
   | (with_reducible exact LeO.none _)
   | (with_reducible refine LeO.ite ?_ ?_)
   | (with_reducible refine LeO.bind ?_ (fun _ => ?_))
   | exact ih0 _ _ _ _ _ _
   | exact ih1 _ _ _
   | exact dropperref05_live.mono _ _ _ _ _
   | exact dropperref05_right.mono _ _ _ _ _
   | exact LeO.none _
   | refine LeO.ite ?_ ?_
   | refine LeO.bind ?_ (fun _ => ?_)
set_option maxHeartbeats 8000000 in
set_option maxRecDepth 100000 in
theorem dropperref05_Good.calls (k : Nat) (a0_0 : Int) (A0_1 : Option Addr) (c0_1 : Nat) (l0_1 : List (S69)) (A0_2 : Option Addr) (c0_2 : Nat) (l0_2 : List (S71)) (a1 : Int) (A2 : Option Addr) (c2 : Nat) (l2 : List Int) (r : Bool) (w : World) (hr0_1 : Kd.C k69 w A0_1 l0_1.length l0_1) (hc0_1 : l0_1.length ≤ c0_1) (hr0_2 : Kd.C k71 w A0_2 l0_2.length l0_2) (hc0_2 : l0_2.length ≤ c0_2) (hr2 : Kd.C (Kd.int .i64) w A2 l2.length l2) (hc2 : l2.length ≤ c2) (h : dropperref05_Good.f k a0_0 l0_1 l0_2 a1 l2 = some r) :
  Calls Tryd.prog 74 #[.agg #[.int .i64 a0_0, .slice A0_1 l0_1.length c0_1, .slice A0_2 l0_2.length c0_2], .int .i64 a1, .slice A2 l2.length c2] w fun e w' => e = .returned (.bool r) ∧ Below w.heap.size w w' := by
 have hu25 := Tryd.underlying25
 have HR0_1 := Aside0.mk hr0_1
 have HC0_1 := Aside0.mk hc0_1
 clear hr0_1 hc0_1
 have HR0_2 := Aside0.mk hr0_2
 have HC0_2 := Aside0.mk hc0_2
 clear hr0_2 hc0_2
 have HR2 := Aside0.mk hr2
 have HC2 := Aside0.mk hc2
 clear hr2 hc2
 have HB := Aside0.mk (Below.refl w.heap.size w)
 have H : ((dropperref05_IsState.f a0_0 l0_1 l0_2 a1).bind fun t511 => (if t511 = true then ((dropperref05_right.f k a0_0 l0_1 l0_2 a1).bind fun t512 => (dropperref05_Good.j0 k a1 l2 (!t512) a0_0 l0_1 l0_2)) else (dropperref05_Good.j0 k a1 l2 true a0_0 l0_1 l0_2))) = some r := h
 clear h
 have HC4 := Aside0.mk H
 clear H
 go_enter Tryd.func74, Tryd.ntmps74
 go_upto_region 1 with (first | ((with_reducible refine gate_dst (N := 3) rfl ?_); refine box_event ?hg (N := 3) ?hd (cs := #[.int .i64 a0_0, .slice A0_1 l0_1.length c0_1, .slice A0_2 l0_2.length c0_2]) (t := 25) ?hr ?_; (case hd => rfl); (case hg => rfl); (case hr => first | (go_simp; done) | (go_simp; rfl)); intro gb510 hg w5 hbox hb; have BK510 := Aside0.mk (hbox); have GW510 := bsz (w := w) hg; have GE510 := GW510; replace HB := Aside0.mk (below_step bel hb); clear hb hbox hg))
 (try simp only [Act.put, List.setIfInBounds_toArray, List.set_cons_zero, List.set_cons_succ])
 go_cut [18] (fun v18 wc => ∃ (kq : Nat) (x18_3 : Bool), v18 = .bool x18_3 ∧ Aside0 (dropperref05_Good.j0 kq a1 l2 x18_3 a0_0 l0_1 l0_2 = some r) ∧ Aside0 (kq ≤ k) ∧ Aside0 (wc.heap[gb510]? = some (.cells #[.int .i64 a0_0, (.slice A0_1 l0_1.length c0_1), (.slice A0_2 l0_2.length c0_2)] 25 (0, 0))) ∧ Aside0 (Below w.heap.size w wc))
 case first =>
  have H := HC4.out
  clear HC4
  replace H := Option.bind_eq_some_iff.mp H
  obtain ⟨t511, A60, H⟩ := H
  replace H : (if t511 = true then ((dropperref05_right.f k a0_0 l0_1 l0_2 a1).bind fun t512 => (dropperref05_Good.j0 k a1 l2 (!t512) a0_0 l0_1 l0_2)) else (dropperref05_Good.j0 k a1 l2 true a0_0 l0_1 l0_2)) = some r := H
  have A6 := Aside0.mk A60
  clear A60
  by_cases c7 : t511 = true
  ·
   subst c7
   have H1 : ((dropperref05_right.f k a0_0 l0_1 l0_2 a1).bind fun t512 => (dropperref05_Good.j0 k a1 l2 (!t512) a0_0 l0_1 l0_2)) = some r := by rw [if_pos rfl] at H; exact H
   clear H
   have H := H1
   clear H1
   replace H := Option.bind_eq_some_iff.mp H
   obtain ⟨t512, A80, H⟩ := H
   replace H : (dropperref05_Good.j0 k a1 l2 (!t512) a0_0 l0_1 l0_2) = some r := H
   have A8 := Aside0.mk A80
   clear A80
   have H' := Aside0.mk H
   clear H
   have hcz9_0 := blkc BK510.out 0 (.int .i64 a0_0) rfl
   have hcz9_1 := blkc BK510.out 1 (.slice A0_1 l0_1.length c0_1) rfl
   have hcz9_2 := blkc BK510.out 2 (.slice A0_2 l0_2.length c0_2) rfl
   have hfz9_0 := blk_frozen BK510.out 0
   have hfz9_1 := blk_frozen BK510.out 1
   have hfz9_2 := blk_frozen BK510.out 2
   go_wp2_with (first | ((with_reducible refine gate_callee (f := 76) rfl ?_); refine goesL_ (some 11) rfl rfl Tryd.func76 (by kernel_rfl) rfl #[.agg #[.int .i64 a0_0, .slice A0_1 l0_1.length c0_1, .slice A0_2 l0_2.length c0_2], .int .i64 a1] rfl mapz ?_; (with_reducible refine (dropperref05_IsState.calls a0_0 _ _ l0_1 _ _ l0_2 a1 true _ ?side1 ?side2 ?side3 ?side4 A6.out).mono ?_); (case side1 => exact cbz HR0_1); (case side2 => exact HC0_1.out); (case side3 => exact cbz HR0_2); (case side4 => exact HC0_2.out); rintro e w10 ⟨rfl, hb⟩; refine ⟨_, rfl, ?_⟩; replace BK510 := Aside0.mk (blk_below (g := gb510) blkz hb); replace HB := Aside0.mk (below_step bel hb); (try clear hb); (try clear hb2); (try clear hk); (try clear hi); have hcz11_0 := blkc BK510.out 0 (.int .i64 a0_0) rfl; have hcz11_1 := blkc BK510.out 1 (.slice A0_1 l0_1.length c0_1) rfl; have hcz11_2 := blkc BK510.out 2 (.slice A0_2 l0_2.length c0_2) rfl) | (go_at_call 51; (with_reducible refine (dropperref05_right.calls k a0_0 _ _ l0_1 _ _ l0_2 a1 t512 _ ?side1 ?side2 ?side3 ?side4 A8.out).mono ?_); (case side1 => exact cbz HR0_1); (case side2 => exact HC0_1.out); (case side3 => exact cbz HR0_2); (case side4 => exact HC0_2.out); rintro e w12 ⟨rfl, hb⟩; replace BK510 := Aside0.mk (blk_below (g := gb510) blkz hb); replace HB := Aside0.mk (below_step bel hb); (try clear hb); (try clear hb2); (try clear hk); (try clear hi)))
   go_meet
   case rel => exact ⟨_, (!t512), rsz, H', ⟨by first | omega | exact Nat.le_refl _⟩, ⟨blkz⟩, ⟨bel⟩⟩
  ·
   replace c7 := Bool.eq_false_iff.mpr c7
   subst c7
   have H1 : (dropperref05_Good.j0 k a1 l2 true a0_0 l0_1 l0_2) = some r := by rw [if_neg (show ¬ (false = true) by decide)] at H; exact H
   clear H
   have H := H1
   clear H1
   have H' := Aside0.mk H
   clear H
   have hcz13_0 := blkc BK510.out 0 (.int .i64 a0_0) rfl
   have hcz13_1 := blkc BK510.out 1 (.slice A0_1 l0_1.length c0_1) rfl
   have hcz13_2 := blkc BK510.out 2 (.slice A0_2 l0_2.length c0_2) rfl
   have hfz13_0 := blk_frozen BK510.out 0
   have hfz13_1 := blk_frozen BK510.out 1
   have hfz13_2 := blk_frozen BK510.out 2
   go_wp2_with (first | ((with_reducible refine gate_callee (f := 76) rfl ?_); refine goesL_ (some 11) rfl rfl Tryd.func76 (by kernel_rfl) rfl #[.agg #[.int .i64 a0_0, .slice A0_1 l0_1.length c0_1, .slice A0_2 l0_2.length c0_2], .int .i64 a1] rfl mapz ?_; (with_reducible refine (dropperref05_IsState.calls a0_0 _ _ l0_1 _ _ l0_2 a1 false _ ?side1 ?side2 ?side3 ?side4 A6.out).mono ?_); (case side1 => exact cbz HR0_1); (case side2 => exact HC0_1.out); (case side3 => exact cbz HR0_2); (case side4 => exact HC0_2.out); rintro e w14 ⟨rfl, hb⟩; refine ⟨_, rfl, ?_⟩; replace BK510 := Aside0.mk (blk_below (g := gb510) blkz hb); replace HB := Aside0.mk (below_step bel hb); (try clear hb); (try clear hb2); (try clear hk); (try clear hi)))
   go_meet
   case rel => exact ⟨_, (true), rsz, H', ⟨by first | omega | exact Nat.le_refl _⟩, ⟨blkz⟩, ⟨bel⟩⟩
 case rest =>
  clear HC4
  try clear c2
  try clear p2
  try clear c7
  try clear hcz11_0
  try clear hcz11_1
  try clear hcz11_2
  try clear hcz13_0
  try clear hcz13_1
  try clear hcz13_2
  try clear hcz9_0
  try clear hcz9_1
  try clear hcz9_2
  try clear hfz11_0
  try clear hfz11_1
  try clear hfz11_2
  try clear hfz13_0
  try clear hfz13_1
  try clear hfz13_2
  try clear hfz9_0
  try clear hfz9_1
  try clear hfz9_2
  obtain ⟨kq, x18_3, rfl, HA, HJ3, BK510, HB⟩ := hcut
  cases kq with
  | zero => exact absurd HA.out (by simp [dropperref05_Good.j0])
  | succ kj3 =>
   have H := HA.out
   clear HA
   simp only [dropperref05_Good.j0] at H
   by_cases c15 : x18_3 = true
   ·
    subst c15
    have H1 : (some false) = some r := by rw [if_pos rfl] at H; exact H
    clear H
    have H := H1
    clear H1
    obtain rfl := Option.some.inj H
    go_wp2
    go_ret
    exact ⟨ezz, bel⟩
   ·
    replace c15 := Bool.eq_false_iff.mpr c15
    subst c15
    have H1 : ((dropperref05_live.f kj3 a0_0 l0_1 l0_2 a1).bind fun t513 => (dropperref05_Good.l0 kj3 l2 t513 0)) = some r := by rw [if_neg (show ¬ (false = true) by decide)] at H; exact H
    clear H
    have H := H1
    clear H1
    replace H := Option.bind_eq_some_iff.mp H
    obtain ⟨t513, A160, H⟩ := H
    replace H : (dropperref05_Good.l0 kj3 l2 t513 0) = some r := H
    have A16 := Aside0.mk A160
    clear A160
    have H' := Aside0.mk H
    clear H
    have hcz17_0 := blkc BK510.out 0 (.int .i64 a0_0) rfl
    have hcz17_1 := blkc BK510.out 1 (.slice A0_1 l0_1.length c0_1) rfl
    have hcz17_2 := blkc BK510.out 2 (.slice A0_2 l0_2.length c0_2) rfl
    have hfz17_0 := blk_frozen BK510.out 0
    have hfz17_1 := blk_frozen BK510.out 1
    have hfz17_2 := blk_frozen BK510.out 2
    go_wp2_with (first | ((with_reducible refine gate_callee (f := 49) rfl ?_); refine goesL_ (some 21) rfl rfl Tryd.func49 (by kernel_rfl) rfl #[.agg #[.int .i64 a0_0, .slice A0_1 l0_1.length c0_1, .slice A0_2 l0_2.length c0_2], .int .i64 a1] rfl mapz ?_; (with_reducible refine (dropperref05_live.calls kj3 a0_0 _ _ l0_1 _ _ l0_2 a1 t513 _ ?side1 ?side2 ?side3 ?side4 A16.out).mono ?_); (case side1 => exact cbz HR0_1); (case side2 => exact HC0_1.out); (case side3 => exact cbz HR0_2); (case side4 => exact HC0_2.out); rintro e w18 ⟨v514, rfl, ho0, hb⟩; refine ⟨_, rfl, ?_⟩; have HO515 := Aside0.mk (Kd.R_lower ho0 (below_size bel)); replace BK510 := Aside0.mk (blk_below (g := gb510) blkz hb); replace HB := Aside0.mk (below_step bel hb); (try clear hb); (try clear hb2); (try clear hk); (try clear hi); (try clear ho0)))
    go_loopg [8] kj3 (fun kq v8 w' => ∃ (x8_2 : Int), v8 = .int .i64 x8_2 ∧ Aside0 (dropperref05_Good.l0 kq l2 t513 x8_2 = some r) ∧ Aside0 (kq ≤ kj3) ∧ Aside0 (Kd.R (Kd.int .i64) 3 w' w.heap.size (fun _ => True) v514 t513) ∧ Aside0 (w'.heap[gb510]? = some (.cells #[.int .i64 a0_0, (.slice A0_1 l0_1.length c0_1), (.slice A0_2 l0_2.length c0_2)] 25 (0, 0))) ∧ Aside0 (Below w.heap.size w w'))
    case atStart => exact ⟨(0), rsz, H', ⟨Nat.le_refl _⟩, ⟨by (with_reducible repeat (first | apply Kd.R_alloc | apply Kd.R_drewN | apply Kd.R_drew)); exact HO515.out⟩, ⟨blkz⟩, ⟨bel⟩⟩
    case round =>
     clear H'
     try clear c1
     try clear c2
     try clear p2
     try clear c4
     try clear c7
     try clear c15
     try clear hcz11_0
     try clear hcz11_1
     try clear hcz11_2
     try clear hcz13_0
     try clear hcz13_1
     try clear hcz13_2
     try clear hcz17_0
     try clear hcz17_1
     try clear hcz17_2
     try clear hcz9_0
     try clear hcz9_1
     try clear hcz9_2
     try clear hfz11_0
     try clear hfz11_1
     try clear hfz11_2
     try clear hfz13_0
     try clear hfz13_1
     try clear hfz13_2
     try clear hfz17_0
     try clear hfz17_1
     try clear hfz17_2
     try clear hfz9_0
     try clear hfz9_1
     try clear hfz9_2
     try clear p2
     obtain ⟨x8_2, rfl, HA, HK2, HO_7, BK510, HB⟩ := hrel
     cases gk with
     | zero => exact absurd HA.out (by simp [dropperref05_Good.l0])
     | succ k2 =>
      have H := HA.out
      clear HA
      simp only [dropperref05_Good.l0] at H
      by_cases c19 : x8_2 < (l2.length : Int)
      ·
       rw [if_pos c19] at H
       have c19b0 : decide (x8_2 < (l2.length : Int)) = true := decide_eq_true c19
       clear c19
       by_cases c20 : 0 ≤ x8_2
       ·
        rw [if_pos c20] at H
        have c20b0 : decide (0 ≤ x8_2) = true := decide_eq_true c20
        clear c20
        by_cases c21 : 0 ≤ (rd l2 x8_2)
        ·
         rw [if_pos c21] at H
         have c21b0 : decide (0 ≤ (rd l2 x8_2)) = true := decide_eq_true c21
         clear c21
         by_cases c22 : (rd l2 x8_2) < (t513.length : Int)
         ·
          rw [if_pos c22] at H
          have c22b0 : decide ((rd l2 x8_2) < (t513.length : Int)) = true := decide_eq_true c22
          clear c22
          by_cases c23 : (rd t513 (rd l2 x8_2)) = 0
          ·
           rw [if_pos c23] at H
           have c23b0 : ((rd t513 (rd l2 x8_2)) == 0) = true := beq_iff_eq.mpr c23
           have c23b1 : ((rd t513 (rd l2 x8_2)) != 0) = false := bne_eq_false_iff_eq.mpr c23
           clear c23
           obtain rfl := Option.some.inj H
           have p516 : 0 ≤ (x8_2 : Int) := of_decide_eq_true asz
           have q516 : x8_2 < (l2.length : Int) := of_decide_eq_true asz
           obtain ⟨ad516, e516, hx516_0⟩ := Kd.at_int HR2.out x8_2 p516 q516
           cases e516
           replace hx516_0 := (HB.out.cell (World.block_lt_of_cell? w _ hx516_0)).trans hx516_0
           replace p516 := eq_true p516
           replace q516 := eq_true q516
           obtain ⟨Ao24, co24, eo24⟩ := Kd.R_slice HO_7.out
           subst eo24
           have p517 : 0 ≤ ((rd l2 x8_2) : Int) := of_decide_eq_true asz
           have q517 : (rd l2 x8_2) < (t513.length : Int) := of_decide_eq_true asz
           obtain ⟨ad517, e517, hx517_0⟩ := Kd.at_int (Kd.R_reads' HO_7.out).2.2 (rd l2 x8_2) p517 q517
           cases e517
           replace p517 := eq_true p517
           replace q517 := eq_true q517
           go_wp2
           go_ret
           exact ⟨ezz, bel⟩
          ·
           rw [if_neg c23] at H
           have c23b0 : ((rd t513 (rd l2 x8_2)) == 0) = false := beq_eq_false_iff_ne.mpr c23
           have c23b1 : ((rd t513 (rd l2 x8_2)) != 0) = true := bne_iff_ne.mpr c23
           have H' := Aside0.mk H
           clear H
           have p516 : 0 ≤ (x8_2 : Int) := of_decide_eq_true asz
           have q516 : x8_2 < (l2.length : Int) := of_decide_eq_true asz
           obtain ⟨ad516, e516, hx516_0⟩ := Kd.at_int HR2.out x8_2 p516 q516
           cases e516
           replace hx516_0 := (HB.out.cell (World.block_lt_of_cell? w _ hx516_0)).trans hx516_0
           replace p516 := eq_true p516
           replace q516 := eq_true q516
           obtain ⟨Ao25, co25, eo25⟩ := Kd.R_slice HO_7.out
           subst eo25
           have p517 : 0 ≤ ((rd l2 x8_2) : Int) := of_decide_eq_true asz
           have q517 : (rd l2 x8_2) < (t513.length : Int) := of_decide_eq_true asz
           obtain ⟨ad517, e517, hx517_0⟩ := Kd.at_int (Kd.R_reads' HO_7.out).2.2 (rd l2 x8_2) p517 q517
           cases e517
           replace p517 := eq_true p517
           replace q517 := eq_true q517
           go_wp2
           go_roundg k2
           case measure => have := HJ3.out; have := HK2.out; omega
           case rel => exact ⟨(wrap64 (x8_2 + 1)), rsz, H', ⟨by have := HJ3.out; have := HK2.out; omega⟩, ⟨by (with_reducible repeat (first | apply Kd.R_alloc | apply Kd.R_drewN | apply Kd.R_drew)); exact HO_7.out⟩, ⟨blkz⟩, ⟨bel⟩⟩
         ·
          rw [if_neg c22] at H
          exact absurd H (by simp)
        ·
         rw [if_neg c21] at H
         exact absurd H (by simp)
       ·
        rw [if_neg c20] at H
        exact absurd H (by simp)
      ·
       rw [if_neg c19] at H
       have c19b0 : decide (x8_2 < (l2.length : Int)) = false := decide_eq_false c19
       clear c19
       obtain rfl := Option.some.inj H
       go_wp2
       go_ret
       exact ⟨ezz, bel⟩

/-! ### dropperref05_IsKeep: function 88 -/
def dropperref05_IsKeep.l0 : Nat → List Int → Int → Int → List (S69) → List (S71) → Option (Bool)
 | 0, _, _, _, _, _ => none
 | k + 1, x1, x5, x519000, x519001, x519002 => if x5 < (x1.length : Int) then (if 0 ≤ x5 then ((dropperref05_section.f x519000 x519001 x519002 (rd x1 x5)).bind fun t520 => (if t520 = true then (if x5 > 0 then (if 0 ≤ (wrap64 (x5 - 1)) then (if (wrap64 (x5 - 1)) < (x1.length : Int) then (if (rd x1 x5) ≤ (rd x1 (wrap64 (x5 - 1))) then (some false) else (dropperref05_IsKeep.l0 k x1 (wrap64 (x5 + 1)) x519000 x519001 x519002)) else (none)) else (none)) else (dropperref05_IsKeep.l0 k x1 (wrap64 (x5 + 1)) x519000 x519001 x519002)) else (some false))) else (none)) else (some true)
def dropperref05_IsKeep.f (k : Nat) (a0_0 : Int) (l0_1 : List (S69)) (l0_2 : List (S71)) (l1 : List Int) : Option (Bool) := dropperref05_IsKeep.l0 k l1 0 a0_0 l0_1 l0_2
theorem dropperref05_IsKeep.mono_l : ∀ k, (∀ y0 y1 y2 y3 y4, LeO (dropperref05_IsKeep.l0 k y0 y1 y2 y3 y4) (dropperref05_IsKeep.l0 (k + 1) y0 y1 y2 y3 y4))
 | 0 => fun _ _ _ _ _ r h => by simp [dropperref05_IsKeep.l0] at h
 | k + 1 => by
  have ih0 := dropperref05_IsKeep.mono_l k
  ·
   intro y0 y1 y2 y3 y4
   unfold dropperref05_IsKeep.l0
   repeat' first
   | (with_reducible exact ih0 _ _ _ _ _)
   | (with_reducible exact LeO.refl _)
   | (with_reducible exact LeO.none _)
   | (with_reducible refine LeO.ite ?_ ?_)
   | (with_reducible refine LeO.bind ?_ (fun _ => ?_))
   | exact ih0 _ _ _ _ _
   | exact LeO.none _
   | refine LeO.ite ?_ ?_
   | refine LeO.bind ?_ (fun _ => ?_)
theorem dropperref05_IsKeep.mono : ∀ a0 a1 a2 a3 k, LeO (dropperref05_IsKeep.f k a0 a1 a2 a3) (dropperref05_IsKeep.f (k + 1) a0 a1 a2 a3) := by
 intro a0 a1 a2 a3 k
 have ih0 := dropperref05_IsKeep.mono_l k
 unfold dropperref05_IsKeep.f
 repeat' first
   | (with_reducible exact ih0 _ _ _ _ _)
   | (with_reducible exact LeO.refl _)
   | (with_reducible exact LeO.none _)
   | (with_reducible refine LeO.ite ?_ ?_)
   | (with_reducible refine LeO.bind ?_ (fun _ => ?_))
   | exact ih0 _ _ _ _ _
   | exact LeO.none _
   | refine LeO.ite ?_ ?_
   | refine LeO.bind ?_ (fun _ => ?_)
def dropperref05_IsKeep.T4 : Bool × List (List Nat × List Nat) := (true, [([], []), ([], []), ([], []), ([1, 2], [1, 2]), ([3], [3]), ([0, 4], [0, 4]), ([5], [5]), ([6, 5], [6]), ([7], [7]), ([8, 7], [7, 8]), ([9, 7, 7], [7, 9]), ([10], [10]), ([10], [10]), ([11, 12, 10], [10, 11, 12]), ([13, 10], [10, 13]), ([10], [10]), ([10], [10]), ([16, 10], [10, 16]), ([15, 17, 10], [10, 15, 17]), ([18, 10], [10, 18]), ([14, 19, 10], [10, 14, 19]), ([10, 20, 7], [7, 10, 20]), ([7, 21], [7, 21])])
def dropperref05_IsKeep.B4 : List Nat := [0, 0, 0, 6, 14, 31, 63, 127, 255, 511, 1023, 2047, 2047, 8191, 16383, 2047, 2047, 67583, 231423, 493567, 1048575, 2097151, 4194303]
theorem dropperref05_IsKeep.tab4 : rtab .any (opsOf Tryd.f88 4) = dropperref05_IsKeep.T4 := by kernel_rfl
theorem dropperref05_IsKeep.bits4 : waitsOk dropperref05_IsKeep.T4.2 dropperref05_IsKeep.B4 = true := by kernel_rfl
set_option maxHeartbeats 8000000 in
set_option maxRecDepth 100000 in
theorem dropperref05_IsKeep.calls (k : Nat) (a0_0 : Int) (A0_1 : Option Addr) (c0_1 : Nat) (l0_1 : List (S69)) (A0_2 : Option Addr) (c0_2 : Nat) (l0_2 : List (S71)) (A1 : Option Addr) (c1 : Nat) (l1 : List Int) (r : Bool) (w : World) (hr0_1 : Kd.C k69 w A0_1 l0_1.length l0_1) (hc0_1 : l0_1.length ≤ c0_1) (hr0_2 : Kd.C k71 w A0_2 l0_2.length l0_2) (hc0_2 : l0_2.length ≤ c0_2) (hr1 : Kd.C (Kd.int .i64) w A1 l1.length l1) (hc1 : l1.length ≤ c1) (h : dropperref05_IsKeep.f k a0_0 l0_1 l0_2 l1 = some r) :
  Calls Tryd.prog 88 #[.agg #[.int .i64 a0_0, .slice A0_1 l0_1.length c0_1, .slice A0_2 l0_2.length c0_2], .slice A1 l1.length c1] w fun e w' => e = .returned (.bool r) ∧ Below w.heap.size w w' := by
 have hu25 := Tryd.underlying25
 have HR0_1 := Aside0.mk hr0_1
 have HC0_1 := Aside0.mk hc0_1
 clear hr0_1 hc0_1
 have HR0_2 := Aside0.mk hr0_2
 have HC0_2 := Aside0.mk hc0_2
 clear hr0_2 hc0_2
 have HR1 := Aside0.mk hr1
 have HC1 := Aside0.mk hc1
 clear hr1 hc1
 have HB := Aside0.mk (Below.refl w.heap.size w)
 have H : (dropperref05_IsKeep.l0 k l1 0 a0_0 l0_1 l0_2) = some r := h
 clear h
 have H' := Aside0.mk H
 clear H
 go_enter Tryd.func88, Tryd.ntmps88
 go_wp2_with (first | ((with_reducible refine gate_dst (N := 2) rfl ?_); refine box_event ?hg (N := 2) ?hd (cs := #[.int .i64 a0_0, .slice A0_1 l0_1.length c0_1, .slice A0_2 l0_2.length c0_2]) (t := 25) ?hr ?_; (case hd => rfl); (case hg => rfl); (case hr => first | (go_simp; done) | (go_simp; rfl)); intro gb518 hg w3 hbox hb; have BK518 := Aside0.mk (hbox); have GW518 := bsz (w := w) hg; have GE518 := GW518; replace HB := Aside0.mk (below_step bel hb); clear hb hbox hg))
 go_loopg [5] k (fun kq v5 w' => ∃ (x5_1 : Int), v5 = .int .i64 x5_1 ∧ Aside0 (dropperref05_IsKeep.l0 kq l1 x5_1 a0_0 l0_1 l0_2 = some r) ∧ Aside0 (kq ≤ k) ∧ Aside0 (w'.heap[gb518]? = some (.cells #[.int .i64 a0_0, (.slice A0_1 l0_1.length c0_1), (.slice A0_2 l0_2.length c0_2)] 25 (0, 0))) ∧ Aside0 (Below w.heap.size w w'))
 case atStart => exact ⟨(0), rsz, H', ⟨Nat.le_refl _⟩, ⟨blkz⟩, ⟨bel⟩⟩
 case round =>
  clear H'
  try clear c1
  try clear p2
  obtain ⟨x5_1, rfl, HA, HK1, BK518, HB⟩ := hrel
  cases gk with
  | zero => exact absurd HA.out (by simp [dropperref05_IsKeep.l0])
  | succ k1 =>
   have H := HA.out
   clear HA
   simp only [dropperref05_IsKeep.l0] at H
   by_cases c4 : x5_1 < (l1.length : Int)
   ·
    rw [if_pos c4] at H
    have c4b0 : decide (x5_1 < (l1.length : Int)) = true := decide_eq_true c4
    clear c4
    by_cases c5 : 0 ≤ x5_1
    ·
     rw [if_pos c5] at H
     have c5b0 : decide (0 ≤ x5_1) = true := decide_eq_true c5
     clear c5
     replace H := Option.bind_eq_some_iff.mp H
     obtain ⟨t520, A60, H⟩ := H
     replace H : (if t520 = true then (if x5_1 > 0 then (if 0 ≤ (wrap64 (x5_1 - 1)) then (if (wrap64 (x5_1 - 1)) < (l1.length : Int) then (if (rd l1 x5_1) ≤ (rd l1 (wrap64 (x5_1 - 1))) then (some false) else (dropperref05_IsKeep.l0 k1 l1 (wrap64 (x5_1 + 1)) a0_0 l0_1 l0_2)) else (none)) else (none)) else (dropperref05_IsKeep.l0 k1 l1 (wrap64 (x5_1 + 1)) a0_0 l0_1 l0_2)) else (some false)) = some r := H
     have A6 := Aside0.mk A60
     clear A60
     by_cases c7 : t520 = true
     ·
      subst c7
      have H1 : (if x5_1 > 0 then (if 0 ≤ (wrap64 (x5_1 - 1)) then (if (wrap64 (x5_1 - 1)) < (l1.length : Int) then (if (rd l1 x5_1) ≤ (rd l1 (wrap64 (x5_1 - 1))) then (some false) else (dropperref05_IsKeep.l0 k1 l1 (wrap64 (x5_1 + 1)) a0_0 l0_1 l0_2)) else (none)) else (none)) else (dropperref05_IsKeep.l0 k1 l1 (wrap64 (x5_1 + 1)) a0_0 l0_1 l0_2)) = some r := by rw [if_pos rfl] at H; exact H
      clear H
      have H := H1
      clear H1
      by_cases c8 : x5_1 > 0
      ·
       rw [if_pos c8] at H
       have c8b0 : decide (0 < x5_1) = true := decide_eq_true c8
       clear c8
       obtain ⟨ji9, hji9⟩ : ∃ j_ : Int, (wrap64 (x5_1 - 1)) = j_ := ⟨_, rfl⟩
       replace H : (if 0 ≤ (ji9) then (if (ji9) < (l1.length : Int) then (if (rd l1 x5_1) ≤ (rd l1 (ji9)) then (some false) else (dropperref05_IsKeep.l0 k1 l1 (wrap64 (x5_1 + 1)) a0_0 l0_1 l0_2)) else (none)) else (none)) = some r := by first | (rw [hji9] at H; exact H) | (simp only [hji9] at H ⊢; exact H)
       (try rw [hji9] at A6)
       have hji9w : (IntKind.i64.wrap (x5_1 - 1)) = ji9 := (i64_w _).trans hji9
       by_cases c10 : 0 ≤ (ji9)
       ·
        rw [if_pos c10] at H
        have c10b0 : decide (0 ≤ (ji9)) = true := decide_eq_true c10
        clear c10
        by_cases c11 : (ji9) < (l1.length : Int)
        ·
         rw [if_pos c11] at H
         have c11b0 : decide ((ji9) < (l1.length : Int)) = true := decide_eq_true c11
         clear c11
         by_cases c12 : (rd l1 x5_1) ≤ (rd l1 (ji9))
         ·
          rw [if_pos c12] at H
          have c12b0 : decide ((rd l1 x5_1) ≤ (rd l1 (ji9))) = true := decide_eq_true c12
          clear c12
          obtain rfl := Option.some.inj H
          try go_wp2
          have n0_ := Aside0.mk (blk_drew BK518.out)
          have n1_ := Aside0.mk (below_drew1 HB.out)
          clear BK518
          clear HB
          have BK518 := n0_
          have HB := n1_
          clear n0_ n1_
          have p519 : 0 ≤ (x5_1 : Int) := of_decide_eq_true asz
          have q519 : x5_1 < (l1.length : Int) := of_decide_eq_true asz
          obtain ⟨ad519, e519, hx519_0⟩ := Kd.at_int HR1.out x5_1 p519 q519
          have hw519_0 := hx519_0
          cases e519
          replace hx519_0 := (HB.out.cell (World.block_lt_of_cell? w _ hx519_0)).trans hx519_0
          replace p519 := eq_true p519
          replace q519 := eq_true q519
          have p521 : 0 ≤ (x5_1 : Int) := of_decide_eq_true asz
          have q521 : x5_1 < (l1.length : Int) := of_decide_eq_true asz
          obtain ⟨ad521, e521, hx521_0⟩ := Kd.at_int HR1.out x5_1 p521 q521
          have hw521_0 := hx521_0
          obtain rfl : ad519 = ad521 := (by injection e521)
          replace hx521_0 := (HB.out.cell (World.block_lt_of_cell? w _ hx521_0)).trans hx521_0
          replace p521 := eq_true p521
          replace q521 := eq_true q521
          have p522 : 0 ≤ ((ji9) : Int) := of_decide_eq_true asz
          have q522 : (ji9) < (l1.length : Int) := of_decide_eq_true asz
          obtain ⟨ad522, e522, hx522_0⟩ := Kd.at_int HR1.out (ji9) p522 q522
          have hw522_0 := hx522_0
          obtain rfl : ad519 = ad522 := (by injection e522)
          replace hx522_0 := (HB.out.cell (World.block_lt_of_cell? w _ hx522_0)).trans hx522_0
          replace p522 := eq_true p522
          replace q522 := eq_true q522
          refine start_ (n := 23) (S := fun w' => w'.cell? ⟨gb518, 0, none⟩ = some (.int .i64 a0_0) ∧ w'.cell? ⟨gb518, 1, none⟩ = some (.slice A0_1 l0_1.length c0_1) ∧ w'.cell? ⟨gb518, 2, none⟩ = some (.slice A0_2 l0_2.length c0_2) ∧ w'.cell? (ad519.add (x5_1).toNat) = some (.int .i64 (rd l1 x5_1)) ∧ w'.cell? (ad519.add (x5_1).toNat) = some (.int .i64 (rd l1 x5_1)) ∧ w'.cell? (ad519.add ((ji9)).toNat) = some (.int .i64 (rd l1 (ji9)))) (ds := []) #[false, false, false, false, false, false, false, false, false, false, false, false, false, false, false, false, false, false, false, false, false, false, false] (by kernel_rfl) rfl rfl ⟨(blk_cell BK518.out 0).trans rfl, (blk_cell BK518.out 1).trans rfl, (blk_cell BK518.out 2).trans rfl, ((HB.out.cell (World.block_lt_of_cell? w _ hw519_0)).trans hw519_0), ((HB.out.cell (World.block_lt_of_cell? w _ hw521_0)).trans hw521_0), ((HB.out.cell (World.block_lt_of_cell? w _ hw522_0)).trans hw522_0)⟩ (fun hHeld => ?_); refine with_tabW dropperref05_IsKeep.tab4 dropperref05_IsKeep.bits4 (fun HT_ HW_ => ?_)
          generalize wr.drew = w13 at BK518 HB hx519_0 hx521_0 hx522_0 hHeld ⊢
          refine pst (i := 1) (N := some 13) (bz 23 2) (any_of HT_.out (by kernel_rfl)) ?_
          refine pst (i := 2) (N := some 14) (bz 23 6) (any_of HT_.out (by kernel_rfl)) ?_
          refine pst (i := 3) (N := some 15) (bz 23 14) (any_of HT_.out (by kernel_rfl)) ?_
          refine tst6 (i := 0) (N := some 12) (bz 23 15) (take_ofW HT_.out HW_.out (by kernel_rfl)) hHeld ?_
          refine tst6 (i := 4) (N := some 16) (bz 23 31) (take_ofW HT_.out HW_.out (by kernel_rfl)) hHeld ?_
          refine one_ (i := 5) (N := some 17) #[true, true, true, true, true, true, false, false, false, false, false, false, false, false, false, false, false, false, false, false, false, false, false] rfl rfl (one_of HT_.out (by kernel_rfl)) (by decide) (fun K hK => ?_)
          refine goes_ Tryd.func58 (by kernel_rfl) rfl #[.agg #[.int .i64 a0_0, .slice A0_1 l0_1.length c0_1, .slice A0_2 l0_2.length c0_2], .int .i64 (rd l1 x5_1)] (by rfl) rfl rfl mapz ?_
          with_reducible refine (dropperref05_section.calls a0_0 _ _ l0_1 _ _ l0_2 (rd l1 x5_1) true _ ?side1 ?side2 ?side3 ?side4 A6.out).mono ?_
          (case side1 => exact cbz HR0_1)
          (case side2 => exact HC0_1.out)
          (case side3 => exact cbz HR0_2)
          (case side4 => exact HC0_2.out)
          rintro e w14 ⟨rfl, hb⟩
          refine ⟨_, rfl, ?_⟩
          have n0_ := Aside0.mk (blk_below (g := gb518) blkz hb)
          have n1_ := Aside0.mk (below_step bel hb)
          clear BK518
          clear HB
          have BK518 := n0_
          have HB := n1_
          clear n0_ n1_
          (try clear hb)
          (try clear hb2)
          (try clear hk)
          (try clear hi)
          refine hK.out _ _ ⟨(blk_cell BK518.out 0).trans rfl, (blk_cell BK518.out 1).trans rfl, (blk_cell BK518.out 2).trans rfl, ((HB.out.cell (World.block_lt_of_cell? w _ hw519_0)).trans hw519_0), ((HB.out.cell (World.block_lt_of_cell? w _ hw521_0)).trans hw521_0), ((HB.out.cell (World.block_lt_of_cell? w _ hw522_0)).trans hw522_0)⟩ (fun hHeld => ?_)
          clear hK K
          refine norm_ (a' := ?_) ?_ ?_
          rotate_left
          ·
           show Act.put _ (some 17) _ = _
           simp only [Act.put, List.setIfInBounds_toArray, List.set_cons_zero, List.set_cons_succ, i64_w, i32_w]
           rfl
          refine pst (i := 6) (N := some 18) (bz 23 127) (any_of HT_.out (by kernel_rfl)) ?_
          refine pst (i := 7) (N := some 19) (bz 23 255) (any_of HT_.out (by kernel_rfl)) ?_
          refine pst (i := 8) (N := some 20) (bz 23 511) (any_of HT_.out (by kernel_rfl)) ?_
          refine pst (i := 9) (N := some 21) (bz 23 1023) (any_of HT_.out (by kernel_rfl)) ?_
          refine pst (i := 10) (N := some 22) (bz 23 2047) (any_of HT_.out (by kernel_rfl)) ?_
          refine pst (i := 11) (N := some 23) (bz 23 4095) (any_of HT_.out (by kernel_rfl)) ?_
          refine pst (i := 12) (N := some 24) (bz 23 8191) (any_of HT_.out (by kernel_rfl)) ?_
          refine pst (i := 13) (N := some 25) (bz 23 16383) (any_of HT_.out (by kernel_rfl)) ?_
          refine pst (i := 15) (N := some 27) (bz 23 49151) (any_of HT_.out (by kernel_rfl)) ?_
          refine pst (i := 16) (N := some 28) (bz 23 114687) (any_of HT_.out (by kernel_rfl)) ?_
          refine pst (i := 17) (N := some 29) (bz 23 245759) (any_of HT_.out (by kernel_rfl)) ?_
          refine pst (i := 18) (N := some 30) (bz 23 507903) (any_of HT_.out (by kernel_rfl)) ?_
          refine tst6 (i := 14) (N := some 26) (bz 23 524287) (take_ofW HT_.out HW_.out (by kernel_rfl)) hHeld ?_
          refine tst6 (i := 19) (N := some 31) (bz 23 1048575) (take_ofW HT_.out HW_.out (by kernel_rfl)) hHeld ?_
          refine pst (i := 20) (N := some 32) (bz 23 2097151) (any_of HT_.out (by kernel_rfl)) ?_
          refine pst (i := 21) (N := some 33) (bz 23 4194303) (any_of HT_.out (by kernel_rfl)) ?_
          refine pst (i := 22) (N := some 34) (bz 23 8388607) (any_of HT_.out (by kernel_rfl)) ?_
          refine done_ (done_of HT_.out (by kernel_rfl)) ?_
          try go_wp2
          go_ret
          exact ⟨by first | rfl | (simp [errW_none, errW_some] <;> rfl) | (simp only [← hji9]; first | rfl | (simp [errW_none, errW_some] <;> rfl)) | (simp [*, errW_none, errW_some] <;> rfl), bel⟩
         ·
          rw [if_neg c12] at H
          have c12b0 : decide ((rd l1 x5_1) ≤ (rd l1 (ji9))) = false := decide_eq_false c12
          clear c12
          have H' := Aside0.mk H
          clear H
          try go_wp2
          have n0_ := Aside0.mk (blk_drew BK518.out)
          have n1_ := Aside0.mk (below_drew1 HB.out)
          clear BK518
          clear HB
          have BK518 := n0_
          have HB := n1_
          clear n0_ n1_
          have p519 : 0 ≤ (x5_1 : Int) := of_decide_eq_true asz
          have q519 : x5_1 < (l1.length : Int) := of_decide_eq_true asz
          obtain ⟨ad519, e519, hx519_0⟩ := Kd.at_int HR1.out x5_1 p519 q519
          have hw519_0 := hx519_0
          cases e519
          replace hx519_0 := (HB.out.cell (World.block_lt_of_cell? w _ hx519_0)).trans hx519_0
          replace p519 := eq_true p519
          replace q519 := eq_true q519
          have p521 : 0 ≤ (x5_1 : Int) := of_decide_eq_true asz
          have q521 : x5_1 < (l1.length : Int) := of_decide_eq_true asz
          obtain ⟨ad521, e521, hx521_0⟩ := Kd.at_int HR1.out x5_1 p521 q521
          have hw521_0 := hx521_0
          obtain rfl : ad519 = ad521 := (by injection e521)
          replace hx521_0 := (HB.out.cell (World.block_lt_of_cell? w _ hx521_0)).trans hx521_0
          replace p521 := eq_true p521
          replace q521 := eq_true q521
          have p522 : 0 ≤ ((ji9) : Int) := of_decide_eq_true asz
          have q522 : (ji9) < (l1.length : Int) := of_decide_eq_true asz
          obtain ⟨ad522, e522, hx522_0⟩ := Kd.at_int HR1.out (ji9) p522 q522
          have hw522_0 := hx522_0
          obtain rfl : ad519 = ad522 := (by injection e522)
          replace hx522_0 := (HB.out.cell (World.block_lt_of_cell? w _ hx522_0)).trans hx522_0
          replace p522 := eq_true p522
          replace q522 := eq_true q522
          refine start_ (n := 23) (S := fun w' => w'.cell? ⟨gb518, 0, none⟩ = some (.int .i64 a0_0) ∧ w'.cell? ⟨gb518, 1, none⟩ = some (.slice A0_1 l0_1.length c0_1) ∧ w'.cell? ⟨gb518, 2, none⟩ = some (.slice A0_2 l0_2.length c0_2) ∧ w'.cell? (ad519.add (x5_1).toNat) = some (.int .i64 (rd l1 x5_1)) ∧ w'.cell? (ad519.add (x5_1).toNat) = some (.int .i64 (rd l1 x5_1)) ∧ w'.cell? (ad519.add ((ji9)).toNat) = some (.int .i64 (rd l1 (ji9)))) (ds := []) #[false, false, false, false, false, false, false, false, false, false, false, false, false, false, false, false, false, false, false, false, false, false, false] (by kernel_rfl) rfl rfl ⟨(blk_cell BK518.out 0).trans rfl, (blk_cell BK518.out 1).trans rfl, (blk_cell BK518.out 2).trans rfl, ((HB.out.cell (World.block_lt_of_cell? w _ hw519_0)).trans hw519_0), ((HB.out.cell (World.block_lt_of_cell? w _ hw521_0)).trans hw521_0), ((HB.out.cell (World.block_lt_of_cell? w _ hw522_0)).trans hw522_0)⟩ (fun hHeld => ?_); refine with_tabW dropperref05_IsKeep.tab4 dropperref05_IsKeep.bits4 (fun HT_ HW_ => ?_)
          generalize wr.drew = w15 at BK518 HB hx519_0 hx521_0 hx522_0 hHeld ⊢
          refine pst (i := 1) (N := some 13) (bz 23 2) (any_of HT_.out (by kernel_rfl)) ?_
          refine pst (i := 2) (N := some 14) (bz 23 6) (any_of HT_.out (by kernel_rfl)) ?_
          refine pst (i := 3) (N := some 15) (bz 23 14) (any_of HT_.out (by kernel_rfl)) ?_
          refine tst6 (i := 0) (N := some 12) (bz 23 15) (take_ofW HT_.out HW_.out (by kernel_rfl)) hHeld ?_
          refine tst6 (i := 4) (N := some 16) (bz 23 31) (take_ofW HT_.out HW_.out (by kernel_rfl)) hHeld ?_
          refine one_ (i := 5) (N := some 17) #[true, true, true, true, true, true, false, false, false, false, false, false, false, false, false, false, false, false, false, false, false, false, false] rfl rfl (one_of HT_.out (by kernel_rfl)) (by decide) (fun K hK => ?_)
          refine goes_ Tryd.func58 (by kernel_rfl) rfl #[.agg #[.int .i64 a0_0, .slice A0_1 l0_1.length c0_1, .slice A0_2 l0_2.length c0_2], .int .i64 (rd l1 x5_1)] (by rfl) rfl rfl mapz ?_
          with_reducible refine (dropperref05_section.calls a0_0 _ _ l0_1 _ _ l0_2 (rd l1 x5_1) true _ ?side1 ?side2 ?side3 ?side4 A6.out).mono ?_
          (case side1 => exact cbz HR0_1)
          (case side2 => exact HC0_1.out)
          (case side3 => exact cbz HR0_2)
          (case side4 => exact HC0_2.out)
          rintro e w16 ⟨rfl, hb⟩
          refine ⟨_, rfl, ?_⟩
          have n0_ := Aside0.mk (blk_below (g := gb518) blkz hb)
          have n1_ := Aside0.mk (below_step bel hb)
          clear BK518
          clear HB
          have BK518 := n0_
          have HB := n1_
          clear n0_ n1_
          (try clear hb)
          (try clear hb2)
          (try clear hk)
          (try clear hi)
          refine hK.out _ _ ⟨(blk_cell BK518.out 0).trans rfl, (blk_cell BK518.out 1).trans rfl, (blk_cell BK518.out 2).trans rfl, ((HB.out.cell (World.block_lt_of_cell? w _ hw519_0)).trans hw519_0), ((HB.out.cell (World.block_lt_of_cell? w _ hw521_0)).trans hw521_0), ((HB.out.cell (World.block_lt_of_cell? w _ hw522_0)).trans hw522_0)⟩ (fun hHeld => ?_)
          clear hK K
          refine norm_ (a' := ?_) ?_ ?_
          rotate_left
          ·
           show Act.put _ (some 17) _ = _
           simp only [Act.put, List.setIfInBounds_toArray, List.set_cons_zero, List.set_cons_succ, i64_w, i32_w]
           rfl
          refine pst (i := 6) (N := some 18) (bz 23 127) (any_of HT_.out (by kernel_rfl)) ?_
          refine pst (i := 7) (N := some 19) (bz 23 255) (any_of HT_.out (by kernel_rfl)) ?_
          refine pst (i := 8) (N := some 20) (bz 23 511) (any_of HT_.out (by kernel_rfl)) ?_
          refine pst (i := 9) (N := some 21) (bz 23 1023) (any_of HT_.out (by kernel_rfl)) ?_
          refine pst (i := 10) (N := some 22) (bz 23 2047) (any_of HT_.out (by kernel_rfl)) ?_
          refine pst (i := 11) (N := some 23) (bz 23 4095) (any_of HT_.out (by kernel_rfl)) ?_
          refine pst (i := 12) (N := some 24) (bz 23 8191) (any_of HT_.out (by kernel_rfl)) ?_
          refine pst (i := 13) (N := some 25) (bz 23 16383) (any_of HT_.out (by kernel_rfl)) ?_
          refine pst (i := 15) (N := some 27) (bz 23 49151) (any_of HT_.out (by kernel_rfl)) ?_
          refine pst (i := 16) (N := some 28) (bz 23 114687) (any_of HT_.out (by kernel_rfl)) ?_
          refine pst (i := 17) (N := some 29) (bz 23 245759) (any_of HT_.out (by kernel_rfl)) ?_
          refine pst (i := 18) (N := some 30) (bz 23 507903) (any_of HT_.out (by kernel_rfl)) ?_
          refine tst6 (i := 14) (N := some 26) (bz 23 524287) (take_ofW HT_.out HW_.out (by kernel_rfl)) hHeld ?_
          refine tst6 (i := 19) (N := some 31) (bz 23 1048575) (take_ofW HT_.out HW_.out (by kernel_rfl)) hHeld ?_
          refine pst (i := 20) (N := some 32) (bz 23 2097151) (any_of HT_.out (by kernel_rfl)) ?_
          refine pst (i := 21) (N := some 33) (bz 23 4194303) (any_of HT_.out (by kernel_rfl)) ?_
          refine pst (i := 22) (N := some 34) (bz 23 8388607) (any_of HT_.out (by kernel_rfl)) ?_
          refine done_ (done_of HT_.out (by kernel_rfl)) ?_
          try go_wp2
          go_roundg k1
          case measure => have := HK1.out; omega
          case rel => exact ⟨(wrap64 (x5_1 + 1)), rsz, H', ⟨by have := HK1.out; omega⟩, ⟨blkz⟩, ⟨bel⟩⟩
        ·
         rw [if_neg c11] at H
         exact absurd H (by simp)
       ·
        rw [if_neg c10] at H
        exact absurd H (by simp)
      ·
       rw [if_neg c8] at H
       have c8b0 : decide (0 < x5_1) = false := decide_eq_false c8
       clear c8
       have H' := Aside0.mk H
       clear H
       try go_wp2
       have n0_ := Aside0.mk (blk_drew BK518.out)
       have n1_ := Aside0.mk (below_drew1 HB.out)
       clear BK518
       clear HB
       have BK518 := n0_
       have HB := n1_
       clear n0_ n1_
       have p519 : 0 ≤ (x5_1 : Int) := of_decide_eq_true asz
       have q519 : x5_1 < (l1.length : Int) := of_decide_eq_true asz
       obtain ⟨ad519, e519, hx519_0⟩ := Kd.at_int HR1.out x5_1 p519 q519
       have hw519_0 := hx519_0
       cases e519
       replace hx519_0 := (HB.out.cell (World.block_lt_of_cell? w _ hx519_0)).trans hx519_0
       replace p519 := eq_true p519
       replace q519 := eq_true q519
       refine start_ (n := 23) (S := fun w' => w'.cell? ⟨gb518, 0, none⟩ = some (.int .i64 a0_0) ∧ w'.cell? ⟨gb518, 1, none⟩ = some (.slice A0_1 l0_1.length c0_1) ∧ w'.cell? ⟨gb518, 2, none⟩ = some (.slice A0_2 l0_2.length c0_2) ∧ w'.cell? (ad519.add (x5_1).toNat) = some (.int .i64 (rd l1 x5_1))) (ds := []) #[false, false, false, false, false, false, false, false, false, false, false, false, false, false, false, false, false, false, false, false, false, false, false] (by kernel_rfl) rfl rfl ⟨(blk_cell BK518.out 0).trans rfl, (blk_cell BK518.out 1).trans rfl, (blk_cell BK518.out 2).trans rfl, ((HB.out.cell (World.block_lt_of_cell? w _ hw519_0)).trans hw519_0)⟩ (fun hHeld => ?_); refine with_tabW dropperref05_IsKeep.tab4 dropperref05_IsKeep.bits4 (fun HT_ HW_ => ?_)
       generalize wr.drew = w17 at BK518 HB hx519_0 hHeld ⊢
       refine pst (i := 1) (N := some 13) (bz 23 2) (any_of HT_.out (by kernel_rfl)) ?_
       refine pst (i := 2) (N := some 14) (bz 23 6) (any_of HT_.out (by kernel_rfl)) ?_
       refine pst (i := 3) (N := some 15) (bz 23 14) (any_of HT_.out (by kernel_rfl)) ?_
       refine tst4 (i := 0) (N := some 12) (bz 23 15) (take_ofW HT_.out HW_.out (by kernel_rfl)) hHeld ?_
       refine tst4 (i := 4) (N := some 16) (bz 23 31) (take_ofW HT_.out HW_.out (by kernel_rfl)) hHeld ?_
       refine one_ (i := 5) (N := some 17) #[true, true, true, true, true, true, false, false, false, false, false, false, false, false, false, false, false, false, false, false, false, false, false] rfl rfl (one_of HT_.out (by kernel_rfl)) (by decide) (fun K hK => ?_)
       refine goes_ Tryd.func58 (by kernel_rfl) rfl #[.agg #[.int .i64 a0_0, .slice A0_1 l0_1.length c0_1, .slice A0_2 l0_2.length c0_2], .int .i64 (rd l1 x5_1)] (by rfl) rfl rfl mapz ?_
       with_reducible refine (dropperref05_section.calls a0_0 _ _ l0_1 _ _ l0_2 (rd l1 x5_1) true _ ?side1 ?side2 ?side3 ?side4 A6.out).mono ?_
       (case side1 => exact cbz HR0_1)
       (case side2 => exact HC0_1.out)
       (case side3 => exact cbz HR0_2)
       (case side4 => exact HC0_2.out)
       rintro e w18 ⟨rfl, hb⟩
       refine ⟨_, rfl, ?_⟩
       have n0_ := Aside0.mk (blk_below (g := gb518) blkz hb)
       have n1_ := Aside0.mk (below_step bel hb)
       clear BK518
       clear HB
       have BK518 := n0_
       have HB := n1_
       clear n0_ n1_
       (try clear hb)
       (try clear hb2)
       (try clear hk)
       (try clear hi)
       refine hK.out _ _ ⟨(blk_cell BK518.out 0).trans rfl, (blk_cell BK518.out 1).trans rfl, (blk_cell BK518.out 2).trans rfl, ((HB.out.cell (World.block_lt_of_cell? w _ hw519_0)).trans hw519_0)⟩ (fun hHeld => ?_)
       clear hK K
       refine norm_ (a' := ?_) ?_ ?_
       rotate_left
       ·
        show Act.put _ (some 17) _ = _
        simp only [Act.put, List.setIfInBounds_toArray, List.set_cons_zero, List.set_cons_succ, i64_w, i32_w]
        rfl
       refine pst (i := 6) (N := some 18) (bz 23 127) (any_of HT_.out (by kernel_rfl)) ?_
       refine pst (i := 7) (N := some 19) (bz 23 255) (any_of HT_.out (by kernel_rfl)) ?_
       refine pst (i := 8) (N := some 20) (bz 23 511) (any_of HT_.out (by kernel_rfl)) ?_
       refine pst (i := 9) (N := some 21) (bz 23 1023) (any_of HT_.out (by kernel_rfl)) ?_
       refine pst (i := 10) (N := some 22) (bz 23 2047) (any_of HT_.out (by kernel_rfl)) ?_
       refine pso (i := 11) (N := some 23) (bz 23 4095) (any_of HT_.out (by kernel_rfl)) ?_
       refine pso (i := 12) (N := some 24) (bz 23 8191) (any_of HT_.out (by kernel_rfl)) ?_
       refine pso (i := 13) (N := some 25) (bz 23 16383) (any_of HT_.out (by kernel_rfl)) ?_
       refine pso (i := 14) (N := some 26) (bz 23 32767) (any_of HT_.out (by kernel_rfl)) ?_
       refine pso (i := 15) (N := some 27) (bz 23 65535) (any_of HT_.out (by kernel_rfl)) ?_
       refine pso (i := 16) (N := some 28) (bz 23 131071) (any_of HT_.out (by kernel_rfl)) ?_
       refine pso (i := 17) (N := some 29) (bz 23 262143) (any_of HT_.out (by kernel_rfl)) ?_
       refine pso (i := 18) (N := some 30) (bz 23 524287) (any_of HT_.out (by kernel_rfl)) ?_
       refine pso (i := 19) (N := some 31) (bz 23 1048575) (any_of HT_.out (by kernel_rfl)) ?_
       refine pso (i := 20) (N := some 32) (bz 23 2097151) (any_of HT_.out (by kernel_rfl)) ?_
       refine pst (i := 21) (N := some 33) (bz 23 4194303) (any_of HT_.out (by kernel_rfl)) ?_
       refine pst (i := 22) (N := some 34) (bz 23 8388607) (any_of HT_.out (by kernel_rfl)) ?_
       refine done_ (done_of HT_.out (by kernel_rfl)) ?_
       try go_wp2
       go_roundg k1
       case measure => have := HK1.out; omega
       case rel => exact ⟨(wrap64 (x5_1 + 1)), rsz, H', ⟨by have := HK1.out; omega⟩, ⟨blkz⟩, ⟨bel⟩⟩
     ·
      replace c7 := Bool.eq_false_iff.mpr c7
      subst c7
      have H1 : (some false) = some r := by rw [if_neg (show ¬ (false = true) by decide)] at H; exact H
      clear H
      have H := H1
      clear H1
      obtain rfl := Option.some.inj H
      try go_wp2
      have n0_ := Aside0.mk (blk_drew BK518.out)
      have n1_ := Aside0.mk (below_drew1 HB.out)
      clear BK518
      clear HB
      have BK518 := n0_
      have HB := n1_
      clear n0_ n1_
      have p519 : 0 ≤ (x5_1 : Int) := of_decide_eq_true asz
      have q519 : x5_1 < (l1.length : Int) := of_decide_eq_true asz
      obtain ⟨ad519, e519, hx519_0⟩ := Kd.at_int HR1.out x5_1 p519 q519
      have hw519_0 := hx519_0
      cases e519
      replace hx519_0 := (HB.out.cell (World.block_lt_of_cell? w _ hx519_0)).trans hx519_0
      replace p519 := eq_true p519
      replace q519 := eq_true q519
      refine start_ (n := 23) (S := fun w' => w'.cell? ⟨gb518, 0, none⟩ = some (.int .i64 a0_0) ∧ w'.cell? ⟨gb518, 1, none⟩ = some (.slice A0_1 l0_1.length c0_1) ∧ w'.cell? ⟨gb518, 2, none⟩ = some (.slice A0_2 l0_2.length c0_2) ∧ w'.cell? (ad519.add (x5_1).toNat) = some (.int .i64 (rd l1 x5_1))) (ds := []) #[false, false, false, false, false, false, false, false, false, false, false, false, false, false, false, false, false, false, false, false, false, false, false] (by kernel_rfl) rfl rfl ⟨(blk_cell BK518.out 0).trans rfl, (blk_cell BK518.out 1).trans rfl, (blk_cell BK518.out 2).trans rfl, ((HB.out.cell (World.block_lt_of_cell? w _ hw519_0)).trans hw519_0)⟩ (fun hHeld => ?_); refine with_tabW dropperref05_IsKeep.tab4 dropperref05_IsKeep.bits4 (fun HT_ HW_ => ?_)
      generalize wr.drew = w19 at BK518 HB hx519_0 hHeld ⊢
      refine pst (i := 1) (N := some 13) (bz 23 2) (any_of HT_.out (by kernel_rfl)) ?_
      refine pst (i := 2) (N := some 14) (bz 23 6) (any_of HT_.out (by kernel_rfl)) ?_
      refine pst (i := 3) (N := some 15) (bz 23 14) (any_of HT_.out (by kernel_rfl)) ?_
      refine tst4 (i := 0) (N := some 12) (bz 23 15) (take_ofW HT_.out HW_.out (by kernel_rfl)) hHeld ?_
      refine tst4 (i := 4) (N := some 16) (bz 23 31) (take_ofW HT_.out HW_.out (by kernel_rfl)) hHeld ?_
      refine one_ (i := 5) (N := some 17) #[true, true, true, true, true, true, false, false, false, false, false, false, false, false, false, false, false, false, false, false, false, false, false] rfl rfl (one_of HT_.out (by kernel_rfl)) (by decide) (fun K hK => ?_)
      refine goes_ Tryd.func58 (by kernel_rfl) rfl #[.agg #[.int .i64 a0_0, .slice A0_1 l0_1.length c0_1, .slice A0_2 l0_2.length c0_2], .int .i64 (rd l1 x5_1)] (by rfl) rfl rfl mapz ?_
      with_reducible refine (dropperref05_section.calls a0_0 _ _ l0_1 _ _ l0_2 (rd l1 x5_1) false _ ?side1 ?side2 ?side3 ?side4 A6.out).mono ?_
      (case side1 => exact cbz HR0_1)
      (case side2 => exact HC0_1.out)
      (case side3 => exact cbz HR0_2)
      (case side4 => exact HC0_2.out)
      rintro e w20 ⟨rfl, hb⟩
      refine ⟨_, rfl, ?_⟩
      have n0_ := Aside0.mk (blk_below (g := gb518) blkz hb)
      have n1_ := Aside0.mk (below_step bel hb)
      clear BK518
      clear HB
      have BK518 := n0_
      have HB := n1_
      clear n0_ n1_
      (try clear hb)
      (try clear hb2)
      (try clear hk)
      (try clear hi)
      refine hK.out _ _ ⟨(blk_cell BK518.out 0).trans rfl, (blk_cell BK518.out 1).trans rfl, (blk_cell BK518.out 2).trans rfl, ((HB.out.cell (World.block_lt_of_cell? w _ hw519_0)).trans hw519_0)⟩ (fun hHeld => ?_)
      clear hK K
      refine norm_ (a' := ?_) ?_ ?_
      rotate_left
      ·
       show Act.put _ (some 17) _ = _
       simp only [Act.put, List.setIfInBounds_toArray, List.set_cons_zero, List.set_cons_succ, i64_w, i32_w]
       rfl
      refine pst (i := 6) (N := some 18) (bz 23 127) (any_of HT_.out (by kernel_rfl)) ?_
      refine pst (i := 7) (N := some 19) (bz 23 255) (any_of HT_.out (by kernel_rfl)) ?_
      refine pso (i := 8) (N := some 20) (bz 23 511) (any_of HT_.out (by kernel_rfl)) ?_
      refine pso (i := 9) (N := some 21) (bz 23 1023) (any_of HT_.out (by kernel_rfl)) ?_
      refine pso (i := 10) (N := some 22) (bz 23 2047) (any_of HT_.out (by kernel_rfl)) ?_
      refine pso (i := 11) (N := some 23) (bz 23 4095) (any_of HT_.out (by kernel_rfl)) ?_
      refine pso (i := 12) (N := some 24) (bz 23 8191) (any_of HT_.out (by kernel_rfl)) ?_
      refine pso (i := 13) (N := some 25) (bz 23 16383) (any_of HT_.out (by kernel_rfl)) ?_
      refine pso (i := 14) (N := some 26) (bz 23 32767) (any_of HT_.out (by kernel_rfl)) ?_
      refine pso (i := 15) (N := some 27) (bz 23 65535) (any_of HT_.out (by kernel_rfl)) ?_
      refine pso (i := 16) (N := some 28) (bz 23 131071) (any_of HT_.out (by kernel_rfl)) ?_
      refine pso (i := 17) (N := some 29) (bz 23 262143) (any_of HT_.out (by kernel_rfl)) ?_
      refine pso (i := 18) (N := some 30) (bz 23 524287) (any_of HT_.out (by kernel_rfl)) ?_
      refine pso (i := 19) (N := some 31) (bz 23 1048575) (any_of HT_.out (by kernel_rfl)) ?_
      refine pso (i := 20) (N := some 32) (bz 23 2097151) (any_of HT_.out (by kernel_rfl)) ?_
      refine pso (i := 21) (N := some 33) (bz 23 4194303) (any_of HT_.out (by kernel_rfl)) ?_
      refine pst (i := 22) (N := some 34) (bz 23 8388607) (any_of HT_.out (by kernel_rfl)) ?_
      refine done_ (done_of HT_.out (by kernel_rfl)) ?_
      try go_wp2
      go_ret
      exact ⟨ezz, bel⟩
    ·
     rw [if_neg c5] at H
     exact absurd H (by simp)
   ·
    rw [if_neg c4] at H
    have c4b0 : decide (x5_1 < (l1.length : Int)) = false := decide_eq_false c4
    clear c4
    obtain rfl := Option.some.inj H
    go_wp2
    go_ret
    exact ⟨ezz, bel⟩

/-! ### dropperref05_begun: function 72 -/
def dropperref05_begun.f (k : Nat) (a0_0 : Int) (l0_1 : List (S69)) (l0_2 : List (S71)) (a1 : Int) (l2 : List Int) : Option (Int) := (dropperref05_Valid.f k a0_0 l0_1 l0_2).bind fun t524 => (if t524 = true then ((dropperref05_IsKeep.f k a0_0 l0_1 l0_2 l2).bind fun t525 => (if t525 = true then ((dropperref05_Good.f k a0_0 l0_1 l0_2 a1 l2).bind fun t526 => (if t526 = true then (some 0) else (some 51))) else (some 2))) else (some 50))
theorem dropperref05_begun.mono : ∀ a0 a1 a2 a3 a4 k, LeO (dropperref05_begun.f k a0 a1 a2 a3 a4) (dropperref05_begun.f (k + 1) a0 a1 a2 a3 a4) := by
 intro a0 a1 a2 a3 a4 k
 unfold dropperref05_begun.f
 repeat' first
   | (with_reducible exact dropperref05_Good.mono _ _ _ _ _ _)
   | (with_reducible exact dropperref05_IsKeep.mono _ _ _ _ _)
   | (with_reducible exact dropperref05_Valid.mono _ _ _ _)
   | (with_reducible exact LeO.refl _)
   | (with_reducible exact LeO.none _)
   | (with_reducible refine LeO.ite ?_ ?_)
   | (with_reducible refine LeO.bind ?_ (fun _ => ?_))
   | exact dropperref05_Good.mono _ _ _ _ _ _
   | exact dropperref05_IsKeep.mono _ _ _ _ _
   | exact dropperref05_Valid.mono _ _ _ _
   | exact LeO.none _
   | refine LeO.ite ?_ ?_
   | refine LeO.bind ?_ (fun _ => ?_)
set_option maxHeartbeats 8000000 in
set_option maxRecDepth 100000 in
theorem dropperref05_begun.calls (k : Nat) (a0_0 : Int) (A0_1 : Option Addr) (c0_1 : Nat) (l0_1 : List (S69)) (A0_2 : Option Addr) (c0_2 : Nat) (l0_2 : List (S71)) (a1 : Int) (A2 : Option Addr) (c2 : Nat) (l2 : List Int) (r : Int) (w : World) (hr0_1 : Kd.C k69 w A0_1 l0_1.length l0_1) (hc0_1 : l0_1.length ≤ c0_1) (hr0_2 : Kd.C k71 w A0_2 l0_2.length l0_2) (hc0_2 : l0_2.length ≤ c0_2) (hr2 : Kd.C (Kd.int .i64) w A2 l2.length l2) (hc2 : l2.length ≤ c2) (h : dropperref05_begun.f k a0_0 l0_1 l0_2 a1 l2 = some r) :
  Calls Tryd.prog 72 #[.agg #[.int .i64 a0_0, .slice A0_1 l0_1.length c0_1, .slice A0_2 l0_2.length c0_2], .int .i64 a1, .slice A2 l2.length c2] w fun e w' => e = .returned (.int .i64 r) ∧ Below w.heap.size w w' := by
 have hu25 := Tryd.underlying25
 have HR0_1 := Aside0.mk hr0_1
 have HC0_1 := Aside0.mk hc0_1
 clear hr0_1 hc0_1
 have HR0_2 := Aside0.mk hr0_2
 have HC0_2 := Aside0.mk hc0_2
 clear hr0_2 hc0_2
 have HR2 := Aside0.mk hr2
 have HC2 := Aside0.mk hc2
 clear hr2 hc2
 have HB := Aside0.mk (Below.refl w.heap.size w)
 have H : ((dropperref05_Valid.f k a0_0 l0_1 l0_2).bind fun t524 => (if t524 = true then ((dropperref05_IsKeep.f k a0_0 l0_1 l0_2 l2).bind fun t525 => (if t525 = true then ((dropperref05_Good.f k a0_0 l0_1 l0_2 a1 l2).bind fun t526 => (if t526 = true then (some 0) else (some 51))) else (some 2))) else (some 50))) = some r := h
 clear h
 replace H := Option.bind_eq_some_iff.mp H
 obtain ⟨t524, A40, H⟩ := H
 replace H : (if t524 = true then ((dropperref05_IsKeep.f k a0_0 l0_1 l0_2 l2).bind fun t525 => (if t525 = true then ((dropperref05_Good.f k a0_0 l0_1 l0_2 a1 l2).bind fun t526 => (if t526 = true then (some 0) else (some 51))) else (some 2))) else (some 50)) = some r := H
 have A4 := Aside0.mk A40
 clear A40
 by_cases c5 : t524 = true
 ·
  subst c5
  have H1 : ((dropperref05_IsKeep.f k a0_0 l0_1 l0_2 l2).bind fun t525 => (if t525 = true then ((dropperref05_Good.f k a0_0 l0_1 l0_2 a1 l2).bind fun t526 => (if t526 = true then (some 0) else (some 51))) else (some 2))) = some r := by rw [if_pos rfl] at H; exact H
  clear H
  have H := H1
  clear H1
  replace H := Option.bind_eq_some_iff.mp H
  obtain ⟨t525, A60, H⟩ := H
  replace H : (if t525 = true then ((dropperref05_Good.f k a0_0 l0_1 l0_2 a1 l2).bind fun t526 => (if t526 = true then (some 0) else (some 51))) else (some 2)) = some r := H
  have A6 := Aside0.mk A60
  clear A60
  by_cases c7 : t525 = true
  ·
   subst c7
   have H1 : ((dropperref05_Good.f k a0_0 l0_1 l0_2 a1 l2).bind fun t526 => (if t526 = true then (some 0) else (some 51))) = some r := by rw [if_pos rfl] at H; exact H
   clear H
   have H := H1
   clear H1
   replace H := Option.bind_eq_some_iff.mp H
   obtain ⟨t526, A80, H⟩ := H
   replace H : (if t526 = true then (some 0) else (some 51)) = some r := H
   have A8 := Aside0.mk A80
   clear A80
   by_cases c9 : t526 = true
   ·
    subst c9
    have H1 : (some 0) = some r := by rw [if_pos rfl] at H; exact H
    clear H
    have H := H1
    clear H1
    obtain rfl := Option.some.inj H
    go_enter Tryd.func72, Tryd.ntmps72
    go_wp2_with (first | ((with_reducible refine gate_dst (N := 3) rfl ?_); refine box_event ?hg (N := 3) ?hd (cs := #[.int .i64 a0_0, .slice A0_1 l0_1.length c0_1, .slice A0_2 l0_2.length c0_2]) (t := 25) ?hr ?_; (case hd => rfl); (case hg => rfl); (case hr => first | (go_simp; done) | (go_simp; rfl)); intro gb523 hg w10 hbox hb; have BK523 := Aside0.mk (hbox); have GW523 := bsz (w := w) hg; have GE523 := GW523; replace HB := Aside0.mk (below_step bel hb); clear hb hbox hg; have hcz11_0 := blkc BK523.out 0 (.int .i64 a0_0) rfl; have hcz11_1 := blkc BK523.out 1 (.slice A0_1 l0_1.length c0_1) rfl; have hcz11_2 := blkc BK523.out 2 (.slice A0_2 l0_2.length c0_2) rfl) | ((with_reducible refine gate_callee (f := 20) rfl ?_); refine goesL_ (some 9) rfl rfl Tryd.func20 (by kernel_rfl) rfl #[.agg #[.int .i64 a0_0, .slice A0_1 l0_1.length c0_1, .slice A0_2 l0_2.length c0_2]] rfl mapz ?_; (with_reducible refine (dropperref05_Valid.calls k a0_0 _ _ l0_1 _ _ l0_2 true _ ?side1 ?side2 ?side3 ?side4 A4.out).mono ?_); (case side1 => exact cbz HR0_1); (case side2 => exact HC0_1.out); (case side3 => exact cbz HR0_2); (case side4 => exact HC0_2.out); rintro e w12 ⟨rfl, hb⟩; refine ⟨_, rfl, ?_⟩; replace BK523 := Aside0.mk (blk_below (g := gb523) blkz hb); replace HB := Aside0.mk (below_step bel hb); (try clear hb); (try clear hb2); (try clear hk); (try clear hi); have hcz13_0 := blkc BK523.out 0 (.int .i64 a0_0) rfl; have hcz13_1 := blkc BK523.out 1 (.slice A0_1 l0_1.length c0_1) rfl; have hcz13_2 := blkc BK523.out 2 (.slice A0_2 l0_2.length c0_2) rfl) | ((with_reducible refine gate_callee (f := 88) rfl ?_); refine goesL_ (some 14) rfl rfl Tryd.func88 (by kernel_rfl) rfl #[.agg #[.int .i64 a0_0, .slice A0_1 l0_1.length c0_1, .slice A0_2 l0_2.length c0_2], .slice A2 l2.length c2] rfl mapz ?_; (with_reducible refine (dropperref05_IsKeep.calls k a0_0 _ _ l0_1 _ _ l0_2 _ _ l2 true _ ?side1 ?side2 ?side3 ?side4 ?side5 ?side6 A6.out).mono ?_); (case side1 => exact cbz HR0_1); (case side2 => exact HC0_1.out); (case side3 => exact cbz HR0_2); (case side4 => exact HC0_2.out); (case side5 => exact cbz HR2); (case side6 => exact HC2.out); rintro e w14 ⟨rfl, hb⟩; refine ⟨_, rfl, ?_⟩; replace BK523 := Aside0.mk (blk_below (g := gb523) blkz hb); replace HB := Aside0.mk (below_step bel hb); (try clear hb); (try clear hb2); (try clear hk); (try clear hi); have hcz15_0 := blkc BK523.out 0 (.int .i64 a0_0) rfl; have hcz15_1 := blkc BK523.out 1 (.slice A0_1 l0_1.length c0_1) rfl; have hcz15_2 := blkc BK523.out 2 (.slice A0_2 l0_2.length c0_2) rfl) | ((with_reducible refine gate_callee (f := 74) rfl ?_); refine goesL_ (some 20) rfl rfl Tryd.func74 (by kernel_rfl) rfl #[.agg #[.int .i64 a0_0, .slice A0_1 l0_1.length c0_1, .slice A0_2 l0_2.length c0_2], .int .i64 a1, .slice A2 l2.length c2] rfl mapz ?_; (with_reducible refine (dropperref05_Good.calls k a0_0 _ _ l0_1 _ _ l0_2 a1 _ _ l2 true _ ?side1 ?side2 ?side3 ?side4 ?side5 ?side6 A8.out).mono ?_); (case side1 => exact cbz HR0_1); (case side2 => exact HC0_1.out); (case side3 => exact cbz HR0_2); (case side4 => exact HC0_2.out); (case side5 => exact cbz HR2); (case side6 => exact HC2.out); rintro e w16 ⟨rfl, hb⟩; refine ⟨_, rfl, ?_⟩; replace BK523 := Aside0.mk (blk_below (g := gb523) blkz hb); replace HB := Aside0.mk (below_step bel hb); (try clear hb); (try clear hb2); (try clear hk); (try clear hi)))
    go_ret
    exact ⟨ezz, bel⟩
   ·
    replace c9 := Bool.eq_false_iff.mpr c9
    subst c9
    have H1 : (some 51) = some r := by rw [if_neg (show ¬ (false = true) by decide)] at H; exact H
    clear H
    have H := H1
    clear H1
    obtain rfl := Option.some.inj H
    go_enter Tryd.func72, Tryd.ntmps72
    go_wp2_with (first | ((with_reducible refine gate_dst (N := 3) rfl ?_); refine box_event ?hg (N := 3) ?hd (cs := #[.int .i64 a0_0, .slice A0_1 l0_1.length c0_1, .slice A0_2 l0_2.length c0_2]) (t := 25) ?hr ?_; (case hd => rfl); (case hg => rfl); (case hr => first | (go_simp; done) | (go_simp; rfl)); intro gb523 hg w17 hbox hb; have BK523 := Aside0.mk (hbox); have GW523 := bsz (w := w) hg; have GE523 := GW523; replace HB := Aside0.mk (below_step bel hb); clear hb hbox hg; have hcz18_0 := blkc BK523.out 0 (.int .i64 a0_0) rfl; have hcz18_1 := blkc BK523.out 1 (.slice A0_1 l0_1.length c0_1) rfl; have hcz18_2 := blkc BK523.out 2 (.slice A0_2 l0_2.length c0_2) rfl) | ((with_reducible refine gate_callee (f := 20) rfl ?_); refine goesL_ (some 9) rfl rfl Tryd.func20 (by kernel_rfl) rfl #[.agg #[.int .i64 a0_0, .slice A0_1 l0_1.length c0_1, .slice A0_2 l0_2.length c0_2]] rfl mapz ?_; (with_reducible refine (dropperref05_Valid.calls k a0_0 _ _ l0_1 _ _ l0_2 true _ ?side1 ?side2 ?side3 ?side4 A4.out).mono ?_); (case side1 => exact cbz HR0_1); (case side2 => exact HC0_1.out); (case side3 => exact cbz HR0_2); (case side4 => exact HC0_2.out); rintro e w19 ⟨rfl, hb⟩; refine ⟨_, rfl, ?_⟩; replace BK523 := Aside0.mk (blk_below (g := gb523) blkz hb); replace HB := Aside0.mk (below_step bel hb); (try clear hb); (try clear hb2); (try clear hk); (try clear hi); have hcz20_0 := blkc BK523.out 0 (.int .i64 a0_0) rfl; have hcz20_1 := blkc BK523.out 1 (.slice A0_1 l0_1.length c0_1) rfl; have hcz20_2 := blkc BK523.out 2 (.slice A0_2 l0_2.length c0_2) rfl) | ((with_reducible refine gate_callee (f := 88) rfl ?_); refine goesL_ (some 14) rfl rfl Tryd.func88 (by kernel_rfl) rfl #[.agg #[.int .i64 a0_0, .slice A0_1 l0_1.length c0_1, .slice A0_2 l0_2.length c0_2], .slice A2 l2.length c2] rfl mapz ?_; (with_reducible refine (dropperref05_IsKeep.calls k a0_0 _ _ l0_1 _ _ l0_2 _ _ l2 true _ ?side1 ?side2 ?side3 ?side4 ?side5 ?side6 A6.out).mono ?_); (case side1 => exact cbz HR0_1); (case side2 => exact HC0_1.out); (case side3 => exact cbz HR0_2); (case side4 => exact HC0_2.out); (case side5 => exact cbz HR2); (case side6 => exact HC2.out); rintro e w21 ⟨rfl, hb⟩; refine ⟨_, rfl, ?_⟩; replace BK523 := Aside0.mk (blk_below (g := gb523) blkz hb); replace HB := Aside0.mk (below_step bel hb); (try clear hb); (try clear hb2); (try clear hk); (try clear hi); have hcz22_0 := blkc BK523.out 0 (.int .i64 a0_0) rfl; have hcz22_1 := blkc BK523.out 1 (.slice A0_1 l0_1.length c0_1) rfl; have hcz22_2 := blkc BK523.out 2 (.slice A0_2 l0_2.length c0_2) rfl) | ((with_reducible refine gate_callee (f := 74) rfl ?_); refine goesL_ (some 20) rfl rfl Tryd.func74 (by kernel_rfl) rfl #[.agg #[.int .i64 a0_0, .slice A0_1 l0_1.length c0_1, .slice A0_2 l0_2.length c0_2], .int .i64 a1, .slice A2 l2.length c2] rfl mapz ?_; (with_reducible refine (dropperref05_Good.calls k a0_0 _ _ l0_1 _ _ l0_2 a1 _ _ l2 false _ ?side1 ?side2 ?side3 ?side4 ?side5 ?side6 A8.out).mono ?_); (case side1 => exact cbz HR0_1); (case side2 => exact HC0_1.out); (case side3 => exact cbz HR0_2); (case side4 => exact HC0_2.out); (case side5 => exact cbz HR2); (case side6 => exact HC2.out); rintro e w23 ⟨rfl, hb⟩; refine ⟨_, rfl, ?_⟩; replace BK523 := Aside0.mk (blk_below (g := gb523) blkz hb); replace HB := Aside0.mk (below_step bel hb); (try clear hb); (try clear hb2); (try clear hk); (try clear hi)))
    go_ret
    exact ⟨ezz, bel⟩
  ·
   replace c7 := Bool.eq_false_iff.mpr c7
   subst c7
   have H1 : (some 2) = some r := by rw [if_neg (show ¬ (false = true) by decide)] at H; exact H
   clear H
   have H := H1
   clear H1
   obtain rfl := Option.some.inj H
   go_enter Tryd.func72, Tryd.ntmps72
   go_wp2_with (first | ((with_reducible refine gate_dst (N := 3) rfl ?_); refine box_event ?hg (N := 3) ?hd (cs := #[.int .i64 a0_0, .slice A0_1 l0_1.length c0_1, .slice A0_2 l0_2.length c0_2]) (t := 25) ?hr ?_; (case hd => rfl); (case hg => rfl); (case hr => first | (go_simp; done) | (go_simp; rfl)); intro gb523 hg w24 hbox hb; have BK523 := Aside0.mk (hbox); have GW523 := bsz (w := w) hg; have GE523 := GW523; replace HB := Aside0.mk (below_step bel hb); clear hb hbox hg; have hcz25_0 := blkc BK523.out 0 (.int .i64 a0_0) rfl; have hcz25_1 := blkc BK523.out 1 (.slice A0_1 l0_1.length c0_1) rfl; have hcz25_2 := blkc BK523.out 2 (.slice A0_2 l0_2.length c0_2) rfl) | ((with_reducible refine gate_callee (f := 20) rfl ?_); refine goesL_ (some 9) rfl rfl Tryd.func20 (by kernel_rfl) rfl #[.agg #[.int .i64 a0_0, .slice A0_1 l0_1.length c0_1, .slice A0_2 l0_2.length c0_2]] rfl mapz ?_; (with_reducible refine (dropperref05_Valid.calls k a0_0 _ _ l0_1 _ _ l0_2 true _ ?side1 ?side2 ?side3 ?side4 A4.out).mono ?_); (case side1 => exact cbz HR0_1); (case side2 => exact HC0_1.out); (case side3 => exact cbz HR0_2); (case side4 => exact HC0_2.out); rintro e w26 ⟨rfl, hb⟩; refine ⟨_, rfl, ?_⟩; replace BK523 := Aside0.mk (blk_below (g := gb523) blkz hb); replace HB := Aside0.mk (below_step bel hb); (try clear hb); (try clear hb2); (try clear hk); (try clear hi); have hcz27_0 := blkc BK523.out 0 (.int .i64 a0_0) rfl; have hcz27_1 := blkc BK523.out 1 (.slice A0_1 l0_1.length c0_1) rfl; have hcz27_2 := blkc BK523.out 2 (.slice A0_2 l0_2.length c0_2) rfl) | ((with_reducible refine gate_callee (f := 88) rfl ?_); refine goesL_ (some 14) rfl rfl Tryd.func88 (by kernel_rfl) rfl #[.agg #[.int .i64 a0_0, .slice A0_1 l0_1.length c0_1, .slice A0_2 l0_2.length c0_2], .slice A2 l2.length c2] rfl mapz ?_; (with_reducible refine (dropperref05_IsKeep.calls k a0_0 _ _ l0_1 _ _ l0_2 _ _ l2 false _ ?side1 ?side2 ?side3 ?side4 ?side5 ?side6 A6.out).mono ?_); (case side1 => exact cbz HR0_1); (case side2 => exact HC0_1.out); (case side3 => exact cbz HR0_2); (case side4 => exact HC0_2.out); (case side5 => exact cbz HR2); (case side6 => exact HC2.out); rintro e w28 ⟨rfl, hb⟩; refine ⟨_, rfl, ?_⟩; replace BK523 := Aside0.mk (blk_below (g := gb523) blkz hb); replace HB := Aside0.mk (below_step bel hb); (try clear hb); (try clear hb2); (try clear hk); (try clear hi)))
   go_ret
   exact ⟨ezz, bel⟩
 ·
  replace c5 := Bool.eq_false_iff.mpr c5
  subst c5
  have H1 : (some 50) = some r := by rw [if_neg (show ¬ (false = true) by decide)] at H; exact H
  clear H
  have H := H1
  clear H1
  obtain rfl := Option.some.inj H
  go_enter Tryd.func72, Tryd.ntmps72
  go_wp2_with (first | ((with_reducible refine gate_dst (N := 3) rfl ?_); refine box_event ?hg (N := 3) ?hd (cs := #[.int .i64 a0_0, .slice A0_1 l0_1.length c0_1, .slice A0_2 l0_2.length c0_2]) (t := 25) ?hr ?_; (case hd => rfl); (case hg => rfl); (case hr => first | (go_simp; done) | (go_simp; rfl)); intro gb523 hg w29 hbox hb; have BK523 := Aside0.mk (hbox); have GW523 := bsz (w := w) hg; have GE523 := GW523; replace HB := Aside0.mk (below_step bel hb); clear hb hbox hg; have hcz30_0 := blkc BK523.out 0 (.int .i64 a0_0) rfl; have hcz30_1 := blkc BK523.out 1 (.slice A0_1 l0_1.length c0_1) rfl; have hcz30_2 := blkc BK523.out 2 (.slice A0_2 l0_2.length c0_2) rfl) | ((with_reducible refine gate_callee (f := 20) rfl ?_); refine goesL_ (some 9) rfl rfl Tryd.func20 (by kernel_rfl) rfl #[.agg #[.int .i64 a0_0, .slice A0_1 l0_1.length c0_1, .slice A0_2 l0_2.length c0_2]] rfl mapz ?_; (with_reducible refine (dropperref05_Valid.calls k a0_0 _ _ l0_1 _ _ l0_2 false _ ?side1 ?side2 ?side3 ?side4 A4.out).mono ?_); (case side1 => exact cbz HR0_1); (case side2 => exact HC0_1.out); (case side3 => exact cbz HR0_2); (case side4 => exact HC0_2.out); rintro e w31 ⟨rfl, hb⟩; refine ⟨_, rfl, ?_⟩; replace BK523 := Aside0.mk (blk_below (g := gb523) blkz hb); replace HB := Aside0.mk (below_step bel hb); (try clear hb); (try clear hb2); (try clear hk); (try clear hi)))
  go_ret
  exact ⟨ezz, bel⟩

/-! ### dropperref05_good: function 98 -/
def dropperref05_good.l0 : Nat → List Int → List Bool → Int → Int → List (S69) → List (S71) → Option (List Bool)
 | 0, _, _, _, _, _, _ => none
 | k + 1, x1, x5, x6, x565000, x565001, x565002 => if x6 < (shl .i64 1 (x565001.length : Int)) then ((dropperref05_Good.f k x565000 x565001 x565002 x6 x1).bind fun t565 => (if x5.length < 140737488355328 then (dropperref05_good.l0 k x1 (x5 ++ [t565]) (wrap64 (x6 + 1)) x565000 x565001 x565002) else (none))) else (some x5)
def dropperref05_good.f (k : Nat) (a0_0 : Int) (l0_1 : List (S69)) (l0_2 : List (S71)) (l1 : List Int) : Option (List Bool) := dropperref05_good.l0 k l1 ([] : List Bool) 0 a0_0 l0_1 l0_2
theorem dropperref05_good.mono_l : ∀ k, (∀ y0 y1 y2 y3 y4 y5, LeO (dropperref05_good.l0 k y0 y1 y2 y3 y4 y5) (dropperref05_good.l0 (k + 1) y0 y1 y2 y3 y4 y5))
 | 0 => fun _ _ _ _ _ _ r h => by simp [dropperref05_good.l0] at h
 | k + 1 => by
  have ih0 := dropperref05_good.mono_l k
  ·
   intro y0 y1 y2 y3 y4 y5
   unfold dropperref05_good.l0
   repeat' first
   | (with_reducible exact ih0 _ _ _ _ _ _)
   | (with_reducible exact dropperref05_Good.mono _ _ _ _ _ _)
   | (with_reducible exact LeO.refl _)
   | (with_reducible exact LeO.none _)
   | (with_reducible refine LeO.ite ?_ ?_)
   | (with_reducible refine LeO.bind ?_ (fun _ => ?_))
   | exact ih0 _ _ _ _ _ _
   | exact dropperref05_Good.mono _ _ _ _ _ _
   | exact LeO.none _
   | refine LeO.ite ?_ ?_
   | refine LeO.bind ?_ (fun _ => ?_)
theorem dropperref05_good.mono : ∀ a0 a1 a2 a3 k, LeO (dropperref05_good.f k a0 a1 a2 a3) (dropperref05_good.f (k + 1) a0 a1 a2 a3) := by
 intro a0 a1 a2 a3 k
 have ih0 := dropperref05_good.mono_l k
 unfold dropperref05_good.f
 repeat' first
   | (with_reducible exact ih0 _ _ _ _ _ _)
   | (with_reducible exact dropperref05_Good.mono _ _ _ _ _ _)
   | (with_reducible exact LeO.refl _)
   | (with_reducible exact LeO.none _)
   | (with_reducible refine LeO.ite ?_ ?_)
   | (with_reducible refine LeO.bind ?_ (fun _ => ?_))
   | exact ih0 _ _ _ _ _ _
   | exact dropperref05_Good.mono _ _ _ _ _ _
   | exact LeO.none _
   | refine LeO.ite ?_ ?_
   | refine LeO.bind ?_ (fun _ => ?_)
set_option maxHeartbeats 8000000 in
set_option maxRecDepth 100000 in
theorem dropperref05_good.calls (k : Nat) (a0_0 : Int) (A0_1 : Option Addr) (c0_1 : Nat) (l0_1 : List (S69)) (A0_2 : Option Addr) (c0_2 : Nat) (l0_2 : List (S71)) (A1 : Option Addr) (c1 : Nat) (l1 : List Int) (r : List Bool) (w : World) (hr0_1 : Kd.C k69 w A0_1 l0_1.length l0_1) (hc0_1 : l0_1.length ≤ c0_1) (hr0_2 : Kd.C k71 w A0_2 l0_2.length l0_2) (hc0_2 : l0_2.length ≤ c0_2) (hr1 : Kd.C (Kd.int .i64) w A1 l1.length l1) (hc1 : l1.length ≤ c1) (h : dropperref05_good.f k a0_0 l0_1 l0_2 l1 = some r) :
  Calls Tryd.prog 98 #[.agg #[.int .i64 a0_0, .slice A0_1 l0_1.length c0_1, .slice A0_2 l0_2.length c0_2], .slice A1 l1.length c1] w fun e w' => ∃ v0_ : Value, e = .returned (v0_) ∧ Kd.R Kd.bool 4 w' w.heap.size (fun _ => True) v0_ r ∧ Below w.heap.size w w' := by
 have hu25 := Tryd.underlying25
 have HR0_1 := Aside0.mk hr0_1
 have HC0_1 := Aside0.mk hc0_1
 clear hr0_1 hc0_1
 have HR0_2 := Aside0.mk hr0_2
 have HC0_2 := Aside0.mk hc0_2
 clear hr0_2 hc0_2
 have HR1 := Aside0.mk hr1
 have HC1 := Aside0.mk hc1
 clear hr1 hc1
 have HB := Aside0.mk (Below.refl w.heap.size w)
 have H : (dropperref05_good.l0 k l1 ([] : List Bool) 0 a0_0 l0_1 l0_2) = some r := h
 clear h
 have H' := Aside0.mk H
 clear H
 go_enter Tryd.func98, Tryd.ntmps98
 go_wp2_with (first | ((with_reducible refine gate_dst (N := 2) rfl ?_); refine box_event ?hg (N := 2) ?hd (cs := #[.int .i64 a0_0, .slice A0_1 l0_1.length c0_1, .slice A0_2 l0_2.length c0_2]) (t := 25) ?hr ?_; (case hd => rfl); (case hg => rfl); (case hr => first | (go_simp; done) | (go_simp; rfl)); intro gb564 hg w3 hbox hb; have BK564 := Aside0.mk (hbox); have GW564 := bsz (w := w) hg; have GE564 := GW564; replace HB := Aside0.mk (below_step bel hb); clear hb hbox hg))
 go_loopg [5, 6] k (fun kq v5 v6 w' => ∃ (x5_1 : List Bool) (x6_1 : Int), v6 = .int .i64 x6_1 ∧ Aside0 (dropperref05_good.l0 kq l1 x5_1 x6_1 a0_0 l0_1 l0_2 = some r) ∧ Aside0 (kq ≤ k) ∧ Aside0 (Kd.R Kd.bool 4 w' w.heap.size (fun _ => True) v5 x5_1) ∧ Aside0 (w'.heap[gb564]? = some (.cells #[.int .i64 a0_0, (.slice A0_1 l0_1.length c0_1), (.slice A0_2 l0_2.length c0_2)] 25 (0, 0))) ∧ Aside0 (Below w.heap.size w w'))
 case atStart => exact ⟨(([] : List Bool)), (0), rsz, H', ⟨Nat.le_refl _⟩, ⟨by first | exact Kd.R_nil _ _ _ _ _ | exact Kd.N_nil _ _ _ _ _ | exact Kd.V_nil _ _ _ _ _ | exact Kd.Q_nil _ _ _ _ _ | exact Kd.S_nil _ _ _ _ _⟩, ⟨blkz⟩, ⟨bel⟩⟩
 case round =>
  clear H'
  try clear c1
  try clear p2
  obtain ⟨x5_1, x6_1, rfl, HA, HK1, HO_5, BK564, HB⟩ := hrel
  cases gk with
  | zero => exact absurd HA.out (by simp [dropperref05_good.l0])
  | succ k1 =>
   have H := HA.out
   clear HA
   simp only [dropperref05_good.l0] at H
   obtain ⟨ji4, hji4⟩ : ∃ j_ : Int, (shl .i64 1 (l0_1.length : Int)) = j_ := ⟨_, rfl⟩
   replace H : (if x6_1 < (ji4) then ((dropperref05_Good.f k1 a0_0 l0_1 l0_2 x6_1 l1).bind fun t565 => (if x5_1.length < 140737488355328 then (dropperref05_good.l0 k1 l1 (x5_1 ++ [t565]) (wrap64 (x6_1 + 1)) a0_0 l0_1 l0_2) else (none))) else (some x5_1)) = some r := by first | (rw [hji4] at H; exact H) | (simp only [hji4] at H ⊢; exact H)
   have hji4_ : (IntKind.i64.wrap (1 * 2 ^ min (l0_1.length : Int).toNat 64)) = ji4 := hji4
   have hji4z : (l0_1.length : Int) ≤ 64 → (IntKind.i64.wrap (1 * 2 ^ (l0_1.length : Int).toNat)) = ji4 := shl_small hji4
   have hji4p : (IntKind.i64.wrap (1 * 2 ^ min l0_1.length 64)) = ji4 := hji4_
   have hji4q : (l0_1.length : Int) ≤ 64 → (IntKind.i64.wrap (1 * 2 ^ l0_1.length)) = ji4 := hji4z
   have hji4r : (IntKind.i64.wrap (2 ^ min l0_1.length 64)) = ji4 := by have h_ := hji4p; rw [Int.one_mul] at h_; exact h_
   have hji4s : (l0_1.length : Int) ≤ 64 → (IntKind.i64.wrap (2 ^ l0_1.length)) = ji4 := fun hle_ => by have h_ := hji4q hle_; rw [Int.one_mul] at h_; exact h_
   have hji4u : (IntKind.i64.wrap (2 ^ min (l0_1.length : Int).toNat 64)) = ji4 := by have h_ := hji4_; rw [Int.one_mul] at h_; exact h_
   have hji4v : (l0_1.length : Int) ≤ 64 → (IntKind.i64.wrap (2 ^ (l0_1.length : Int).toNat)) = ji4 := fun hle_ => by have h_ := hji4z hle_; rw [Int.one_mul] at h_; exact h_
   have hji4y : (wrap64 (1 * 2 ^ min (l0_1.length : Int).toNat 64)) = ji4 := (i64_w _).symm.trans hji4_
   have hji4x : (l0_1.length : Int) ≤ 64 → (wrap64 (1 * 2 ^ (l0_1.length : Int).toNat)) = ji4 := fun h_ => (i64_w _).symm.trans (hji4z h_)
   by_cases c5 : x6_1 < (ji4)
   ·
    rw [if_pos c5] at H
    have c5b0 : decide (x6_1 < (ji4)) = true := decide_eq_true c5
    clear c5
    replace H := Option.bind_eq_some_iff.mp H
    obtain ⟨t565, A60, H⟩ := H
    replace H : (if x5_1.length < 140737488355328 then (dropperref05_good.l0 k1 l1 (x5_1 ++ [t565]) (wrap64 (x6_1 + 1)) a0_0 l0_1 l0_2) else (none)) = some r := H
    have A6 := Aside0.mk A60
    clear A60
    by_cases c7 : x5_1.length < 140737488355328
    ·
     rw [if_pos c7] at H
     have LMc7 := Aside0.mk c7
     clear c7
     obtain ⟨y566, hy566⟩ : ∃ y_ : List Bool, y_ = (x5_1 ++ [t565]) := ⟨_, rfl⟩
     replace H : (dropperref05_good.l0 k1 l1 y566 (wrap64 (x6_1 + 1)) a0_0 l0_1 l0_2) = some r := by first | (rw [hy566]; with_reducible exact H) | (have H2_ := (Option.bind_some _ _).symm.trans H; rw [hy566]; with_reducible exact H2_) | (have H2_ := (Option.bind_some _ _).symm.trans H; with_reducible exact H2_) | with_reducible exact H | (rw [hy566]; exact H) | exact H
     have Ny566 := Aside0.mk hy566
     clear hy566
     have H' := Aside0.mk H
     clear H
     have hcz8_0 := blkc BK564.out 0 (.int .i64 a0_0) rfl
     have hcz8_1 := blkc BK564.out 1 (.slice A0_1 l0_1.length c0_1) rfl
     have hcz8_2 := blkc BK564.out 2 (.slice A0_2 l0_2.length c0_2) rfl
     have hfz8_0 := blk_frozen BK564.out 0
     have hfz8_1 := blk_frozen BK564.out 1
     have hfz8_2 := blk_frozen BK564.out 2
     go_wp2_with (first | ((with_reducible refine gate_callee (f := 74) rfl ?_); refine goesL_ (some 19) rfl rfl Tryd.func74 (by kernel_rfl) rfl #[.agg #[.int .i64 a0_0, .slice A0_1 l0_1.length c0_1, .slice A0_2 l0_2.length c0_2], .int .i64 x6_1, .slice A1 l1.length c1] rfl mapz ?_; (with_reducible refine (dropperref05_Good.calls k1 a0_0 _ _ l0_1 _ _ l0_2 x6_1 _ _ l1 t565 _ ?side1 ?side2 ?side3 ?side4 ?side5 ?side6 A6.out).mono ?_); (case side1 => exact cbz HR0_1); (case side2 => exact HC0_1.out); (case side3 => exact cbz HR0_2); (case side4 => exact HC0_2.out); (case side5 => exact cbz HR1); (case side6 => exact HC1.out); rintro e w9 ⟨rfl, hb⟩; refine ⟨_, rfl, ?_⟩; replace HO_5 := Aside0.mk (Kd.R_below (ownx HO_5) hb); replace BK564 := Aside0.mk (blk_below (g := gb564) blkz hb); replace HB := Aside0.mk (below_step bel hb); (try clear hb); (try clear hb2); (try clear hk); (try clear hi)) | ((with_reducible refine gate_builtin (b := .append) (xs := #[.tmp 15, .tmp 20]) rfl ?_); at_builtin; refine Kd.R_append Kd.bool (w0 := w) w.heap.size rfl (.tmp 15) (.tmp 20) 92 4 (.bool false) 1 rfl Tryd.underlying92 info4 rfl (by decide) (by omega) u5 x5_1 t565 [.bool t565] (fun _ => True) (fun _ => False) rfl rfl ?aP (fun _ hk => hk.elim) ?aF ?aO ?aB ?aS ?aL ?_; (case aP => exact rfl); (case aB => exact bel); (case aF => exact (fun _ _ => trivial)); (case aO => exact (ownx HO_5)); (case aS => exact (below_size bel)); (case aL => have := LMc7.out; omega); intro v567 w10 ho hb hg hat; rw [← Ny566.out] at ho; have n0_ := Aside0.mk (blk_grown (g := gb564) (o := .cells #[.int .i64 a0_0, .slice A0_1 l0_1.length c0_1, .slice A0_2 l0_2.length c0_2] 25 (0, 0)) blkz hg (Kd.R_ne HO_5.out BK564.out (by decide))); have n1_ := Aside0.mk (hb); have n2_ := Aside0.mk (ho); clear BK564; clear HB; clear HO_5; have BK564 := n0_; have HB := n1_; have HO568 := n2_; clear n0_ n1_ n2_; clear ho hb hg hat))
     go_roundg k1
     case measure => have := HK1.out; omega
     case rel => exact ⟨(y566), (wrap64 (x6_1 + 1)), rsz, H', ⟨by have := HK1.out; omega⟩, ⟨by (with_reducible repeat (first | apply Kd.R_alloc | apply Kd.R_drewN | apply Kd.R_drew)); exact HO568.out⟩, ⟨blkz⟩, ⟨bel⟩⟩
    ·
     rw [if_neg c7] at H
     exact absurd H (by simp)
   ·
    rw [if_neg c5] at H
    have c5b0 : decide (x6_1 < (ji4)) = false := decide_eq_false c5
    clear c5
    obtain rfl := Option.some.inj H
    have hcz11_0 := blkc BK564.out 0 (.int .i64 a0_0) rfl
    have hcz11_1 := blkc BK564.out 1 (.slice A0_1 l0_1.length c0_1) rfl
    have hcz11_2 := blkc BK564.out 2 (.slice A0_2 l0_2.length c0_2) rfl
    have hfz11_0 := blk_frozen BK564.out 0
    have hfz11_1 := blk_frozen BK564.out 1
    have hfz11_2 := blk_frozen BK564.out 2
    go_wp2
    go_ret
    exact ⟨_, by first | rfl | (simp [errW_none, errW_some] <;> rfl) | (simp only [← hji4]; first | rfl | (simp [errW_none, errW_some] <;> rfl)) | (simp [*, errW_none, errW_some] <;> rfl), by (with_reducible repeat (first | apply Kd.R_alloc | apply Kd.R_drewN | apply Kd.R_drew)); exact HO_5.out, bel⟩

end Go.Proofs.YtoilhnmdemnknaaDoor.XFeed