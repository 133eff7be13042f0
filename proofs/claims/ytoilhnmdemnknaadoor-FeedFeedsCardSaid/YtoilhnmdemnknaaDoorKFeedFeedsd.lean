-- Written by wip/pack.py of this repo: texts of this claim, put together.
import Derived.Test.YtoilhnmdemnknaaDoorKFeedFeedsc
namespace Go.Proofs.YtoilhnmdemnknaaDoor.XFeed
open Go.RowKit Go.Proofs.YtoilhnmdemnknaaDoorW.PrintWords Go.Proofs.YtoilhnmdemnknaaDoorW.PrintLast Go.Proofs.YtoilhnmdemnknaaDoorW.PrintMore
attribute [local go_sem] max2_int min2_int max_two min_two max_three min_three max_four min_four   -- for this text's walks alone
set_option linter.unusedVariables false
set_option linter.unusedSimpArgs false
/-! ### dropperref05_from: function 67 -/
mutual
def dropperref05_from.l0 : Nat → Int → List Bool → Bool → Int → List (S69) → List (S71) → Option (List Bool)
 | 0, _, _, _, _, _, _ => none
 | k + 1, x1, x7, x8, x248000, x248001, x248002 => if x8 = true then (dropperref05_from.l1 k x1 x7 false 0 x248000 x248001 x248002) else (some x7)
def dropperref05_from.l1 : Nat → Int → List Bool → Bool → Int → Int → List (S69) → List (S71) → Option (List Bool)
 | 0, _, _, _, _, _, _, _ => none
 | k + 1, x1, x7, x8, x9, x248000, x248001, x248002 => if x9 < (x248001.length : Int) then (if 0 ≤ x9 then ((dropperref05_closed.f x1 x9).bind fun t254 => (if t254 = true then (if 0 ≤ ((rd_T69 x248001 x9).f0) then (if ((rd_T69 x248001 x9).f0) < (x7.length : Int) then (if 0 ≤ ((rd_T69 x248001 x9).f1) then (if ((rd_T69 x248001 x9).f1) < (x7.length : Int) then (if ((rdOf false x7 ((rd_T69 x248001 x9).f0)) != (rdOf false x7 ((rd_T69 x248001 x9).f1))) = true then (dropperref05_from.l1 k x1 ((x7.set (((rd_T69 x248001 x9).f0) : Int).toNat true).set (((rd_T69 x248001 x9).f1) : Int).toNat true) true (wrap64 (x9 + 1)) x248000 x248001 x248002) else (dropperref05_from.l1 k x1 x7 x8 (wrap64 (x9 + 1)) x248000 x248001 x248002)) else (none)) else (none)) else (none)) else (none)) else (dropperref05_from.l1 k x1 x7 x8 (wrap64 (x9 + 1)) x248000 x248001 x248002))) else (none)) else (dropperref05_from.l0 k x1 x7 x8 x248000 x248001 x248002)
end
def dropperref05_from.f (k : Nat) (a0_0 : Int) (l0_1 : List (S69)) (l0_2 : List (S71)) (a1 : Int) (a2 : Int) : Option (List Bool) := if 0 ≤ a0_0 then (if (a0_0 : Int).toNat ≤ 281474976710656 then ((some (List.replicate (a0_0 : Int).toNat false : List Bool)).bind fun y248 => (if 0 ≤ a2 then (if a2 < (y248.length : Int) then (dropperref05_from.l0 k a1 (y248.set (a2 : Int).toNat true) true a0_0 l0_1 l0_2) else (none)) else (none))) else (none)) else (none)
theorem dropperref05_from.mono_l : ∀ k, (∀ y0 y1 y2 y3 y4 y5, LeO (dropperref05_from.l0 k y0 y1 y2 y3 y4 y5) (dropperref05_from.l0 (k + 1) y0 y1 y2 y3 y4 y5)) ∧ (∀ y0 y1 y2 y3 y4 y5 y6, LeO (dropperref05_from.l1 k y0 y1 y2 y3 y4 y5 y6) (dropperref05_from.l1 (k + 1) y0 y1 y2 y3 y4 y5 y6))
 | 0 => ⟨fun _ _ _ _ _ _ r h => by simp [dropperref05_from.l0] at h, fun _ _ _ _ _ _ _ r h => by simp [dropperref05_from.l1] at h⟩
 | k + 1 => by
  obtain ⟨ih0, ih1⟩ := dropperref05_from.mono_l k
  refine ⟨?_, ?_⟩
  ·
   intro y0 y1 y2 y3 y4 y5
   unfold dropperref05_from.l0
   repeat' first
   | (with_reducible exact ih0 _ _ _ _ _ _)
   | (with_reducible exact ih1 _ _ _ _ _ _ _)
   | (with_reducible exact LeO.refl _)
   | (with_reducible exact LeO.none _)
   | (with_reducible refine LeO.ite ?_ ?_)
   | (with_reducible refine LeO.bind ?_ (fun _ => ?_))
   | exact ih0 _ _ _ _ _ _
   | exact ih1 _ _ _ _ _ _ _
   | exact LeO.none _
   | refine LeO.ite ?_ ?_
   | refine LeO.bind ?_ (fun _ => ?_)
  ·
   intro y0 y1 y2 y3 y4 y5 y6
   unfold dropperref05_from.l1
   repeat' first
   | (with_reducible exact ih0 _ _ _ _ _ _)
   | (with_reducible exact ih1 _ _ _ _ _ _ _)
   | (with_reducible exact LeO.refl _)
   | (with_reducible exact LeO.none _)
   | (with_reducible refine LeO.ite ?_ ?_)
   | (with_reducible refine LeO.bind ?_ (fun _ => ?_))
   | exact ih0 _ _ _ _ _ _
   | exact ih1 _ _ _ _ _ _ _
   | exact LeO.none _
   | refine LeO.ite ?_ ?_
   | refine LeO.bind ?_ (fun _ => ?_)
theorem dropperref05_from.mono : ∀ a0 a1 a2 a3 a4 k, LeO (dropperref05_from.f k a0 a1 a2 a3 a4) (dropperref05_from.f (k + 1) a0 a1 a2 a3 a4) := by
 intro a0 a1 a2 a3 a4 k
 obtain ⟨ih0, ih1⟩ := dropperref05_from.mono_l k
 unfold dropperref05_from.f
 repeat' first
   | (with_reducible exact ih0 _ _ _ _ _ _)
   | (with_reducible exact ih1 _ _ _ _ _ _ _)
   | (with_reducible exact LeO.refl _)
   | (with_reducible exact LeO.none _)
   | (with_reducible refine LeO.ite ?_ ?_)
   | (with_reducible refine LeO.bind ?_ (fun _ => ?_))
   | exact ih0 _ _ _ _ _ _
   | exact ih1 _ _ _ _ _ _ _
   | exact LeO.none _
   | refine LeO.ite ?_ ?_
   | refine LeO.bind ?_ (fun _ => ?_)
def dropperref05_from.T10 : Bool × List (List Nat × List Nat) := (true, [([], []), ([], []), ([0, 1], [0, 1]), ([2, 2], [2]), ([3], [3]), ([3], [3]), ([5, 3], [3, 5]), ([4, 6, 3], [3, 4, 6]), ([7, 3], [3, 7]), ([3], [3]), ([3], [3]), ([10, 3], [3, 10]), ([9, 11, 3], [3, 9, 11]), ([12, 3], [3, 12]), ([8, 13, 3], [3, 8, 13]), ([3, 14], [3, 14])])
def dropperref05_from.B10 : List Nat := [0, 0, 3, 7, 15, 15, 47, 127, 255, 15, 15, 1039, 3599, 7695, 16383, 32767]
theorem dropperref05_from.tab10 : rtab .any (opsOf Tryd.f67 10) = dropperref05_from.T10 := by kernel_rfl
theorem dropperref05_from.bits10 : waitsOk dropperref05_from.T10.2 dropperref05_from.B10 = true := by kernel_rfl
def dropperref05_from.T11 : Bool × List (List Nat × List Nat) := (true, [([], []), ([], []), ([1], [1]), ([], []), ([], []), ([4], [4]), ([0, 2, 0, 1, 2], [0, 2]), ([6, 0, 1, 2], [6]), ([3, 5, 0, 1, 2, 3, 4, 5, 6, 7], [3, 5]), ([8, 7, 0, 1, 2, 3, 4, 5, 6, 7], [8]), ([9, 0, 1, 2, 3, 4, 5, 6, 7, 8, 9], [])])
def dropperref05_from.B11 : List Nat := [0, 0, 2, 0, 0, 16, 7, 71, 255, 511, 1023]
theorem dropperref05_from.tab11 : rtab .any (opsOf Tryd.f67 11) = dropperref05_from.T11 := by kernel_rfl
theorem dropperref05_from.bits11 : waitsOk dropperref05_from.T11.2 dropperref05_from.B11 = true := by kernel_rfl
set_option maxHeartbeats 8000000 in
set_option maxRecDepth 100000 in
theorem dropperref05_from.calls (k : Nat) (a0_0 : Int) (A0_1 : Option Addr) (c0_1 : Nat) (l0_1 : List (S69)) (A0_2 : Option Addr) (c0_2 : Nat) (l0_2 : List (S71)) (a1 : Int) (a2 : Int) (r : List Bool) (w : World) (hr0_1 : Kd.C k69 w A0_1 l0_1.length l0_1) (hc0_1 : l0_1.length ≤ c0_1) (hr0_2 : Kd.C k71 w A0_2 l0_2.length l0_2) (hc0_2 : l0_2.length ≤ c0_2) (h : dropperref05_from.f k a0_0 l0_1 l0_2 a1 a2 = some r) :
  Calls Tryd.prog 67 #[.agg #[.int .i64 a0_0, .slice A0_1 l0_1.length c0_1, .slice A0_2 l0_2.length c0_2], .int .i64 a1, .int .i64 a2] w fun e w' => ∃ v0_ : Value, e = .returned (v0_) ∧ Kd.R Kd.bool 4 w' w.heap.size (fun _ => True) v0_ r ∧ Below w.heap.size w w' := by
 have hu25 := Tryd.underlying25
 have hu69 := Tryd.underlying69
 have HR0_1 := Aside0.mk hr0_1
 have HC0_1 := Aside0.mk hc0_1
 clear hr0_1 hc0_1
 have HR0_2 := Aside0.mk hr0_2
 have HC0_2 := Aside0.mk hc0_2
 clear hr0_2 hc0_2
 have HB := Aside0.mk (Below.refl w.heap.size w)
 have H : (if 0 ≤ a0_0 then (if (a0_0 : Int).toNat ≤ 281474976710656 then ((some (List.replicate (a0_0 : Int).toNat false : List Bool)).bind fun y248 => (if 0 ≤ a2 then (if a2 < (y248.length : Int) then (dropperref05_from.l0 k a1 (y248.set (a2 : Int).toNat true) true a0_0 l0_1 l0_2) else (none)) else (none))) else (none)) else (none)) = some r := h
 clear h
 by_cases c4 : 0 ≤ a0_0
 ·
  rw [if_pos c4] at H
  have c4b0 := eq_true c4
  have c4b1 : decide (0 ≤ a0_0) = true := decide_eq_true c4
  clear c4
  by_cases c5 : (a0_0 : Int).toNat ≤ 281474976710656
  ·
   rw [if_pos c5] at H
   have c5b0 := eq_true c5
   have c5b1 : decide ((a0_0 : Int).toNat ≤ 281474976710656) = true := decide_eq_true c5
   clear c5
   obtain ⟨y248, hy248⟩ : ∃ y_ : List Bool, y_ = (List.replicate (a0_0 : Int).toNat false) := ⟨_, rfl⟩
   replace H : (if 0 ≤ a2 then (if a2 < (y248.length : Int) then (dropperref05_from.l0 k a1 (y248.set (a2 : Int).toNat true) true a0_0 l0_1 l0_2) else (none)) else (none)) = some r := by first | (rw [hy248]; with_reducible exact H) | (have H2_ := (Option.bind_some _ _).symm.trans H; rw [hy248]; with_reducible exact H2_) | (have H2_ := (Option.bind_some _ _).symm.trans H; with_reducible exact H2_) | with_reducible exact H | (rw [hy248]; exact H) | exact H
   have Ny248 := Aside0.mk hy248
   clear hy248
   by_cases c6 : 0 ≤ a2
   ·
    rw [if_pos c6] at H
    have c6b0 : decide (0 ≤ a2) = true := decide_eq_true c6
    clear c6
    by_cases c7 : a2 < (y248.length : Int)
    ·
     rw [if_pos c7] at H
     have c7b0 : decide (a2 < (y248.length : Int)) = true := decide_eq_true c7
     clear c7
     obtain ⟨y251, hy251⟩ : ∃ y_ : List Bool, y_ = (y248.set (a2 : Int).toNat true) := ⟨_, rfl⟩
     replace H : (dropperref05_from.l0 k a1 y251 true a0_0 l0_1 l0_2) = some r := by first | (rw [hy251]; with_reducible exact H) | (have H2_ := (Option.bind_some _ _).symm.trans H; rw [hy251]; with_reducible exact H2_) | (have H2_ := (Option.bind_some _ _).symm.trans H; with_reducible exact H2_) | with_reducible exact H | (rw [hy251]; exact H) | exact H
     have Ny251 := Aside0.mk hy251
     clear hy251
     have H' := Aside0.mk H
     clear H
     go_enter Tryd.func67, Tryd.ntmps67
     go_wp2_with (first | ((with_reducible refine gate_dst (N := 3) rfl ?_); refine box_event ?hg (N := 3) ?hd (cs := #[.int .i64 a0_0, .slice A0_1 l0_1.length c0_1, .slice A0_2 l0_2.length c0_2]) (t := 25) ?hr ?_; (case hd => rfl); (case hg => rfl); (case hr => first | (go_simp; done) | (go_simp; rfl)); intro gb247 hg w9 hbox hb; have BK247 := Aside0.mk (hbox); have GW247 := bsz (w := w) hg; have GE247 := GW247; replace HB := Aside0.mk (below_step bel hb); clear hb hbox hg; have hcz10_0 := blkc BK247.out 0 (.int .i64 a0_0) rfl; have hcz10_1 := blkc BK247.out 1 (.slice A0_1 l0_1.length c0_1) rfl; have hcz10_2 := blkc BK247.out 2 (.slice A0_2 l0_2.length c0_2) rfl) | ((with_reducible refine gate_dst (N := 13) rfl ?_); refine Kd.R_make Kd.bool _ 4 rfl (N := 13) rfl 92 _ _ rfl a0_0 rfl rfl Tryd.underlying92 (.bool false) 1 info4 rfl (by decide) (by omega) false (ok := fun _ => True) (okp := fun _ => True) rfl (fun _ hk => hk) trivial (of_decide_eq_true asz) (Nat.le_trans (Nat.mul_le_mul_right _ (of_decide_eq_true asz : a0_0.toNat ≤ 281474976710656)) (by omega)) (Below.refl _ _) (Nat.le_refl _) ?_; intro v249 w11 ho12 hb hg_ hnew_; clear hg_ hnew_; (first | rw [← Ny248.out] at ho12 | (simp only [Int.reduceToNat] at ho12; rw [← Ny248.out] at ho12)); have HO250 := Aside0.mk (Kd.R_lower ho12 (below_size bel)); replace BK247 := Aside0.mk (blk_below (g := gb247) blkz hb); replace HB := Aside0.mk (below_step bel hb); clear hb ho12; have p8 : 0 ≤ (a2 : Int) := of_decide_eq_true asz; have q8 : (a2 : Int) < ((y248.length : Int) : Int) := of_decide_eq_true asz; obtain ⟨go8, co8, eo8, gb8, gl8, cl8, HG8⟩ := Kd.R_form HO250.out (by omega); (first | cases eo8 | (injection eo8 with ea_ en_ ec_; (first | subst ea_ | (injection ea_ with ea_; subst ea_)); subst ec_; clear en_)); have GB8 := Aside0.mk gb8; have GG8 := Aside0.mk HG8; clear gb8 gl8 HG8; obtain ⟨hx8_0, hf8_0⟩ := Kd.R_celln false HO250.out (a2 : Int) p8 q8; replace p8 := eq_true p8; replace q8 := eq_true q8; obtain ⟨hy13_, hz13_⟩ := Kd.R_celln false HO250.out (a2 : Int) (of_decide_eq_true asz) (of_decide_eq_true asz); have HP13 := Kd.R_putg HO250.out (a2 : Int) true) | ((with_reducible refine gate_store (t := 4) (p := 16) rfl ?_); refine store_event (t := 4) (p := 16) (v := ?vo_w14) (w1 := (w11.setCell ⟨go8, (a2 : Int).toNat, none⟩ (.bool true))) ?hg ?ho ?hn ?hr ?_; (case ho => rfl); (case hg => rfl); (case hn => rfl); (case hr => first | (go_simp; done) | (go_simp; rfl)); intro w14 hw; have hg : w11.grownBy w14 (some go8) := (by rw [hw]; exact HP13.2); have hp_ : Kd.R Kd.bool 4 w14 w.heap.size (fun _ => True) (.slice (some ⟨go8, 0, none⟩) y248.length co8) y251 := (by rw [hw, Ny251.out]; exact HP13.1); clear HP13; replace BK247 := Aside0.mk (blk_grown (g := gb247) (o := .cells #[.int .i64 a0_0, .slice A0_1 l0_1.length c0_1, .slice A0_2 l0_2.length c0_2] 25 (0, 0)) blkz hg (Kd.R_ne HO250.out BK247.out (by decide))); replace HO250 := Aside0.mk (hp_); replace HB := Aside0.mk ((by rw [hw]; exact below_set (HB.out) GB8.out : Below w.heap.size w w14)); clear hg hw hp_))
     go_loopg [8] k (fun kq v8 w' => ∃ (x7_1 : List Bool) (x8_1 : Bool), v8 = .bool x8_1 ∧ Aside0 (dropperref05_from.l0 kq a1 x7_1 x8_1 a0_0 l0_1 l0_2 = some r) ∧ Aside0 (kq ≤ k) ∧ Aside0 (Kd.R Kd.bool 4 w' w.heap.size (fun _ => True) (.slice (some ⟨go8, 0, none⟩) y248.length co8) x7_1) ∧ Aside0 (w'.heap[gb247]? = some (.cells #[.int .i64 a0_0, (.slice A0_1 l0_1.length c0_1), (.slice A0_2 l0_2.length c0_2)] 25 (0, 0))) ∧ Aside0 (Below w.heap.size w w'))
     case atStart => exact ⟨(y251), (true), rsz, H', ⟨Nat.le_refl _⟩, ⟨by (with_reducible repeat (first | apply Kd.R_alloc | apply Kd.R_drewN | apply Kd.R_drew)); exact HO250.out⟩, ⟨blkz⟩, ⟨bel⟩⟩
     case round =>
      clear H'
      try clear p2
      try clear c4
      try clear c4b0
      try clear c4b1
      try clear c5
      try clear c5b0
      try clear c5b1
      try clear c6
      try clear c6b0
      try clear c7
      try clear c7b0
      try clear p8
      try clear q8
      try clear hx8
      try clear hf8
      try clear hcz10_0
      try clear hcz10_1
      try clear hcz10_2
      try clear hfz10_0
      try clear hfz10_1
      try clear hfz10_2
      try clear hx8_0
      try clear p8
      try clear q8
      obtain ⟨x7_1, x8_1, rfl, HA, HK1, HO_7, BK247, HB⟩ := hrel
      have hl7_1 := (Kd.R_reads' HO_7.out).1
      rw [hl7_1] at HO_7
      (try simp only [hl7_1])
      (try simp only [hl7_1] at BK247)
      cases gk with
      | zero => exact absurd HA.out (by simp [dropperref05_from.l0])
      | succ k1 =>
       have H := HA.out
       clear HA
       simp only [dropperref05_from.l0] at H
       by_cases c15 : x8_1 = true
       ·
        subst c15
        have H1 : (dropperref05_from.l1 k1 a1 x7_1 false 0 a0_0 l0_1 l0_2) = some r := by rw [if_pos rfl] at H; exact H
        clear H
        have H := H1
        clear H1
        have H' := Aside0.mk H
        clear H
        go_wp2
        go_loopg [8, 9] k1 (fun kq v8 v9 w' => ∃ (x7_2 : List Bool) (x8_2 : Bool) (x9_2 : Int), v8 = .bool x8_2 ∧ v9 = .int .i64 x9_2 ∧ Aside0 (dropperref05_from.l1 kq a1 x7_2 x8_2 x9_2 a0_0 l0_1 l0_2 = some r) ∧ Aside0 (kq ≤ k1) ∧ Aside0 (Kd.R Kd.bool 4 w' w.heap.size (fun _ => True) (.slice (some ⟨go8, 0, none⟩) x7_1.length co8) x7_2) ∧ Aside0 (w'.heap[gb247]? = some (.cells #[.int .i64 a0_0, (.slice A0_1 l0_1.length c0_1), (.slice A0_2 l0_2.length c0_2)] 25 (0, 0))) ∧ Aside0 (Below w.heap.size w w'))
        case atStart => exact ⟨(x7_1), (false), (0), rsz, rsz, H', ⟨Nat.le_refl _⟩, ⟨by (try simp only [hl7_1]); (with_reducible repeat (first | apply Kd.R_alloc | apply Kd.R_drewN | apply Kd.R_drew)); exact HO_7.out⟩, ⟨by (try simp only [hl7_1]); (with_reducible repeat (first | refine blk_drewN ?_ _ | refine blk_drew ?_ | refine blk_alloc ?_ _)); exact BK247.out⟩, ⟨bel⟩⟩
        case round =>
         clear H'
         try clear c1
         try clear p2
         try clear c4
         try clear c4b0
         try clear c4b1
         try clear c5
         try clear c5b0
         try clear c5b1
         try clear c6
         try clear c6b0
         try clear c7
         try clear c7b0
         try clear p8
         try clear q8
         try clear hx8
         try clear hf8
         try clear c15
         try clear hcz10_0
         try clear hcz10_1
         try clear hcz10_2
         try clear hfz10_0
         try clear hfz10_1
         try clear hfz10_2
         try clear hx8_0
         try clear p2
         try clear p8
         try clear q8
         obtain ⟨x7_2, x8_2, x9_2, rfl, rfl, HA, HK2, HO_7, BK247, HB⟩ := hrel
         have hl7_2 := (Kd.R_reads' HO_7.out).1
         rw [hl7_2] at HO_7
         (try simp only [hl7_2])
         (try simp only [hl7_2] at BK247)
         cases gk with
         | zero => exact absurd HA.out (by simp [dropperref05_from.l1])
         | succ k2 =>
          have H := HA.out
          clear HA
          simp only [dropperref05_from.l1] at H
          by_cases c16 : x9_2 < (l0_1.length : Int)
          ·
           rw [if_pos c16] at H
           have c16b0 : decide (x9_2 < (l0_1.length : Int)) = true := decide_eq_true c16
           try (have c16b0hl7_1 := c16b0; simp only [hl7_1] at c16b0hl7_1)
           try (have c16b0hl7_2 := c16b0; simp only [hl7_2] at c16b0hl7_2)
           clear c16
           by_cases c17 : 0 ≤ x9_2
           ·
            rw [if_pos c17] at H
            have c17b0 : decide (0 ≤ x9_2) = true := decide_eq_true c17
            clear c17
            replace H := Option.bind_eq_some_iff.mp H
            obtain ⟨t254, A180, H⟩ := H
            replace H : (if t254 = true then (if 0 ≤ ((rd_T69 l0_1 x9_2).f0) then (if ((rd_T69 l0_1 x9_2).f0) < (x7_2.length : Int) then (if 0 ≤ ((rd_T69 l0_1 x9_2).f1) then (if ((rd_T69 l0_1 x9_2).f1) < (x7_2.length : Int) then (if ((rdOf false x7_2 ((rd_T69 l0_1 x9_2).f0)) != (rdOf false x7_2 ((rd_T69 l0_1 x9_2).f1))) = true then (dropperref05_from.l1 k2 a1 ((x7_2.set (((rd_T69 l0_1 x9_2).f0) : Int).toNat true).set (((rd_T69 l0_1 x9_2).f1) : Int).toNat true) true (wrap64 (x9_2 + 1)) a0_0 l0_1 l0_2) else (dropperref05_from.l1 k2 a1 x7_2 x8_2 (wrap64 (x9_2 + 1)) a0_0 l0_1 l0_2)) else (none)) else (none)) else (none)) else (none)) else (dropperref05_from.l1 k2 a1 x7_2 x8_2 (wrap64 (x9_2 + 1)) a0_0 l0_1 l0_2)) = some r := H
            have A18 := Aside0.mk A180
            clear A180
            by_cases c19 : t254 = true
            ·
             subst c19
             have H1 : (if 0 ≤ ((rd_T69 l0_1 x9_2).f0) then (if ((rd_T69 l0_1 x9_2).f0) < (x7_2.length : Int) then (if 0 ≤ ((rd_T69 l0_1 x9_2).f1) then (if ((rd_T69 l0_1 x9_2).f1) < (x7_2.length : Int) then (if ((rdOf false x7_2 ((rd_T69 l0_1 x9_2).f0)) != (rdOf false x7_2 ((rd_T69 l0_1 x9_2).f1))) = true then (dropperref05_from.l1 k2 a1 ((x7_2.set (((rd_T69 l0_1 x9_2).f0) : Int).toNat true).set (((rd_T69 l0_1 x9_2).f1) : Int).toNat true) true (wrap64 (x9_2 + 1)) a0_0 l0_1 l0_2) else (dropperref05_from.l1 k2 a1 x7_2 x8_2 (wrap64 (x9_2 + 1)) a0_0 l0_1 l0_2)) else (none)) else (none)) else (none)) else (none)) = some r := by rw [if_pos rfl] at H; exact H
             clear H
             have H := H1
             clear H1
             by_cases c20 : 0 ≤ ((rd_T69 l0_1 x9_2).f0)
             ·
              rw [if_pos c20] at H
              have c20b0 : decide (0 ≤ ((rd_T69 l0_1 x9_2).f0)) = true := decide_eq_true c20
              clear c20
              by_cases c21 : ((rd_T69 l0_1 x9_2).f0) < (x7_2.length : Int)
              ·
               rw [if_pos c21] at H
               have c21b0 : decide (((rd_T69 l0_1 x9_2).f0) < (x7_2.length : Int)) = true := decide_eq_true c21
               try (have c21b0hl7_1 := c21b0; simp only [hl7_1] at c21b0hl7_1)
               try (have c21b0hl7_2 := c21b0; simp only [hl7_2] at c21b0hl7_2)
               clear c21
               by_cases c22 : 0 ≤ ((rd_T69 l0_1 x9_2).f1)
               ·
                rw [if_pos c22] at H
                have c22b0 : decide (0 ≤ ((rd_T69 l0_1 x9_2).f1)) = true := decide_eq_true c22
                clear c22
                by_cases c23 : ((rd_T69 l0_1 x9_2).f1) < (x7_2.length : Int)
                ·
                 rw [if_pos c23] at H
                 have c23b0 : decide (((rd_T69 l0_1 x9_2).f1) < (x7_2.length : Int)) = true := decide_eq_true c23
                 try (have c23b0hl7_1 := c23b0; simp only [hl7_1] at c23b0hl7_1)
                 try (have c23b0hl7_2 := c23b0; simp only [hl7_2] at c23b0hl7_2)
                 clear c23
                 by_cases c24 : ((rdOf false x7_2 ((rd_T69 l0_1 x9_2).f0)) != (rdOf false x7_2 ((rd_T69 l0_1 x9_2).f1))) = true
                 ·
                  rw [if_pos c24] at H
                  have c24b0 : ((rdOf false x7_2 ((rd_T69 l0_1 x9_2).f0)) != (rdOf false x7_2 ((rd_T69 l0_1 x9_2).f1))) = true := c24
                  (try (have c24b1 : decide ((rdOf false x7_2 ((rd_T69 l0_1 x9_2).f0)) = (rdOf false x7_2 ((rd_T69 l0_1 x9_2).f1))) = false := by simpa using c24))
                  (try (have c24b2 : ((rdOf false x7_2 ((rd_T69 l0_1 x9_2).f0)) == (rdOf false x7_2 ((rd_T69 l0_1 x9_2).f1))) = false := by simpa using c24))
                  (try (have c24b3 : ¬ ((rdOf false x7_2 ((rd_T69 l0_1 x9_2).f0)) = (rdOf false x7_2 ((rd_T69 l0_1 x9_2).f1))) := by simpa using c24))
                  clear c24
                  obtain ⟨y257, hy257⟩ : ∃ y_ : List Bool, y_ = (x7_2.set (((rd_T69 l0_1 x9_2).f0) : Int).toNat true) := ⟨_, rfl⟩
                  replace H : (dropperref05_from.l1 k2 a1 (y257.set (((rd_T69 l0_1 x9_2).f1) : Int).toNat true) true (wrap64 (x9_2 + 1)) a0_0 l0_1 l0_2) = some r := by first | (rw [hy257]; with_reducible exact H) | (have H2_ := (Option.bind_some _ _).symm.trans H; rw [hy257]; with_reducible exact H2_) | (have H2_ := (Option.bind_some _ _).symm.trans H; with_reducible exact H2_) | with_reducible exact H | (rw [hy257]; exact H) | exact H
                  have Ny257 := Aside0.mk hy257
                  clear hy257
                  obtain ⟨y258, hy258⟩ : ∃ y_ : List Bool, y_ = (y257.set (((rd_T69 l0_1 x9_2).f1) : Int).toNat true) := ⟨_, rfl⟩
                  replace H : (dropperref05_from.l1 k2 a1 y258 true (wrap64 (x9_2 + 1)) a0_0 l0_1 l0_2) = some r := by first | (rw [hy258]; with_reducible exact H) | (have H2_ := (Option.bind_some _ _).symm.trans H; rw [hy258]; with_reducible exact H2_) | (have H2_ := (Option.bind_some _ _).symm.trans H; with_reducible exact H2_) | with_reducible exact H | (rw [hy258]; exact H) | exact H
                  have Ny258 := Aside0.mk hy258
                  clear hy258
                  have H' := Aside0.mk H
                  clear H
                  have hcz27_0 := blkc BK247.out 0 (.int .i64 a0_0) rfl
                  have hcz27_1 := blkc BK247.out 1 (.slice A0_1 l0_1.length c0_1) rfl
                  have hcz27_2 := blkc BK247.out 2 (.slice A0_2 l0_2.length c0_2) rfl
                  have hfz27_0 := blk_frozen BK247.out 0
                  have hfz27_1 := blk_frozen BK247.out 1
                  have hfz27_2 := blk_frozen BK247.out 2
                  have p252 : 0 ≤ (x9_2 : Int) := of_decide_eq_true asz
                  have q252 : x9_2 < (l0_1.length : Int) := of_decide_eq_true asz
                  obtain ⟨ad252, e252, hx252_0, hx252_1⟩ := at_T69 HR0_1.out x9_2 p252 q252
                  cases e252
                  replace hx252_0 := (HB.out.cell (World.block_lt_of_cell? w _ hx252_0)).trans hx252_0
                  replace hx252_1 := (HB.out.cell (World.block_lt_of_cell? w _ hx252_1)).trans hx252_1
                  replace p252 := eq_true p252
                  replace q252 := eq_true q252
                  try go_wp2_with (first | ((with_reducible refine gate_dst (N := 10) rfl ?_); refine box_event ?hg (N := 10) ?hd (cs := #[.int .i64 0, .int .i64 0]) (t := 69) ?hr ?_; (case hd => rfl); (case hg => rfl); (case hr => first | (go_simp; done) | (go_simp; rfl)); intro gb253 hg w28 hbox hb; have BK253 := Aside0.mk (hbox); have GW253 := bsz (w := w) hg; have GE253 := GW253; have NB247_253 := neL (g := gb247) hg; have NB253_247 := neR (g := gb247) hg; replace HO_7 := Aside0.mk (Kd.R_below (ownx HO_7) hb); replace BK247 := Aside0.mk (blk_below (g := gb247) blkz hb); replace HB := Aside0.mk (below_step bel hb); clear hb hbox hg; have hnb29 := NB253_247.out; have hnc29 := NB247_253.out; have hcz30_0 := blkc BK253.out 0 (.int .i64 0) rfl; have hcz30_1 := blkc BK253.out 1 (.int .i64 0) rfl; have hfz30_0 := blk_frozen BK253.out 0; have hfz30_1 := blk_frozen BK253.out 1))
                  have n0_ : Aside0 (Kd.R Kd.bool 4 ((w28.setCell ⟨gb253, 0, none⟩ (.int .i64 ((rd_T69 l0_1 x9_2).f0))).setCell ⟨gb253, 1, none⟩ (.int .i64 ((rd_T69 l0_1 x9_2).f1))) w.heap.size (fun _ => True) (.slice (some ⟨go8, 0, none⟩) x7_2.length co8) x7_2) := ⟨by (with_reducible repeat (first | apply Kd.R_alloc | apply Kd.R_drewN | apply Kd.R_drew)); exact Kd.R_mono (Kd.R_far (p := ⟨gb253, 1, none⟩) (Kd.R_far (p := ⟨gb253, 0, none⟩) (Kd.R_types HO_7.out BK253.out (by decide)) (fun _ hk => hk.2) (.int .i64 ((rd_T69 l0_1 x9_2).f0))) (fun _ hk => hk.2) (.int .i64 ((rd_T69 l0_1 x9_2).f1))) (fun _ hk => trivial)⟩
                  have n1_ : Aside0 (((w28.setCell ⟨gb253, 0, none⟩ (.int .i64 ((rd_T69 l0_1 x9_2).f0))).setCell ⟨gb253, 1, none⟩ (.int .i64 ((rd_T69 l0_1 x9_2).f1))).heap[gb247]? = some (.cells #[.int .i64 a0_0, .slice (some ad252) l0_1.length c0_1, .slice A0_2 l0_2.length c0_2] 25 (0, 0))) := ⟨by (with_reducible repeat (first | refine blk_drewN ?_ _ | refine blk_drew ?_ | refine blk_alloc ?_ _)); refine blk_far ?_ NB247_253.out _; (with_reducible repeat (first | refine blk_drewN ?_ _ | refine blk_drew ?_ | refine blk_alloc ?_ _)); refine blk_far ?_ NB247_253.out _; (with_reducible repeat (first | refine blk_drewN ?_ _ | refine blk_drew ?_ | refine blk_alloc ?_ _)); exact BK247.out⟩
                  have n2_ : Aside0 (((w28.setCell ⟨gb253, 0, none⟩ (.int .i64 ((rd_T69 l0_1 x9_2).f0))).setCell ⟨gb253, 1, none⟩ (.int .i64 ((rd_T69 l0_1 x9_2).f1))).heap[gb253]? = some (.cells #[.int .i64 ((rd_T69 l0_1 x9_2).f0), .int .i64 ((rd_T69 l0_1 x9_2).f1)] 69 (0, 0))) := ⟨by (with_reducible repeat (first | refine blk_drewN ?_ _ | refine blk_drew ?_ | refine blk_alloc ?_ _)); refine blk_put (cs := #[.int .i64 ((rd_T69 l0_1 x9_2).f0), .int .i64 0]) ?_ 1 _ rfl; (with_reducible repeat (first | refine blk_drewN ?_ _ | refine blk_drew ?_ | refine blk_alloc ?_ _)); refine blk_put (cs := #[.int .i64 0, .int .i64 0]) ?_ 0 _ rfl; (with_reducible repeat (first | refine blk_drewN ?_ _ | refine blk_drew ?_ | refine blk_alloc ?_ _)); exact BK253.out⟩
                  have n3_ : Aside0 (Below w.heap.size w ((w28.setCell ⟨gb253, 0, none⟩ (.int .i64 ((rd_T69 l0_1 x9_2).f0))).setCell ⟨gb253, 1, none⟩ (.int .i64 ((rd_T69 l0_1 x9_2).f1)))) := ⟨bel⟩
                  (try clear HO_7)
                  (try clear BK247)
                  (try clear BK253)
                  (try clear HB)
                  generalize ((w28.setCell ⟨gb253, 0, none⟩ (.int .i64 ((rd_T69 l0_1 x9_2).f0))).setCell ⟨gb253, 1, none⟩ (.int .i64 ((rd_T69 l0_1 x9_2).f1))) = w31 at n0_ n1_ n2_ n3_ ⊢
                  have HO_7 := n0_
                  have BK247 := n1_
                  have BK253 := n2_
                  have HB := n3_
                  clear n0_ n1_ n2_ n3_
                  have n0_ := Aside0.mk (Kd.R_drew HO_7.out)
                  have n1_ := Aside0.mk (blk_drew BK247.out)
                  have n2_ := Aside0.mk (blk_drew BK253.out)
                  have n3_ := Aside0.mk (below_drew1 HB.out)
                  clear HO_7
                  clear BK247
                  clear BK253
                  clear HB
                  have HO_7 := n0_
                  have BK247 := n1_
                  have BK253 := n2_
                  have HB := n3_
                  clear n0_ n1_ n2_ n3_
                  have p255 : 0 ≤ (((rd_T69 l0_1 x9_2).f0) : Int) := of_decide_eq_true asz
                  have q255 : ((rd_T69 l0_1 x9_2).f0) < (x7_2.length : Int) := of_decide_eq_true asz
                  obtain ⟨ad255, e255, hx255_0⟩ := Kd.at_bool (Kd.R_reads' HO_7.out).2.2 ((rd_T69 l0_1 x9_2).f0) p255 q255
                  obtain rfl : (⟨go8, 0, none⟩ : Addr) = ad255 := (by injection e255)
                  (first | simp only [add_plain] at hx255_0 | simp only [add_at] at hx255_0 | simp only [Addr.add, Nat.zero_add] at hx255_0 | skip)
                  replace p255 := eq_true p255
                  replace q255 := eq_true q255
                  have p256 : 0 ≤ (((rd_T69 l0_1 x9_2).f1) : Int) := of_decide_eq_true asz
                  have q256 : ((rd_T69 l0_1 x9_2).f1) < (x7_2.length : Int) := of_decide_eq_true asz
                  obtain ⟨ad256, e256, hx256_0⟩ := Kd.at_bool (Kd.R_reads' HO_7.out).2.2 ((rd_T69 l0_1 x9_2).f1) p256 q256
                  obtain rfl : (⟨go8, 0, none⟩ : Addr) = ad256 := (by injection e256)
                  (first | simp only [add_plain] at hx256_0 | simp only [add_at] at hx256_0 | simp only [Addr.add, Nat.zero_add] at hx256_0 | skip)
                  replace p256 := eq_true p256
                  replace q256 := eq_true q256
                  refine start_ (n := 16) (S := fun w' => w'.cell? ⟨gb253, 0, none⟩ = some (.int .i64 ((rd_T69 l0_1 x9_2).f0)) ∧ w'.cell? ⟨gb253, 1, none⟩ = some (.int .i64 ((rd_T69 l0_1 x9_2).f1)) ∧ w'.cell? ⟨go8, (((rd_T69 l0_1 x9_2).f0)).toNat, none⟩ = some (.bool (rdOf false x7_2 ((rd_T69 l0_1 x9_2).f0))) ∧ w'.cell? ⟨go8, (((rd_T69 l0_1 x9_2).f1)).toNat, none⟩ = some (.bool (rdOf false x7_2 ((rd_T69 l0_1 x9_2).f1)))) (ds := []) #[false, false, false, false, false, false, false, false, false, false, false, false, false, false, false, false] (by kernel_rfl) rfl rfl ⟨(blk_cell BK253.out 0).trans rfl, (blk_cell BK253.out 1).trans rfl, hx255_0, hx256_0⟩ (fun hHeld => ?_); refine with_tabW dropperref05_from.tab10 dropperref05_from.bits10 (fun HT_ HW_ => ?_)
                  generalize w31.drew = w32 at HO_7 BK247 BK253 HB hx255_0 hx256_0 hHeld ⊢
                  refine pst (i := 0) (N := some 30) (bz 16 1) (any_of HT_.out (by kernel_rfl)) ?_
                  refine pst (i := 1) (N := some 31) (bz 16 3) (any_of HT_.out (by kernel_rfl)) ?_
                  refine one_ (i := 2) (N := some 32) #[true, true, true, false, false, false, false, false, false, false, false, false, false, false, false, false] rfl rfl (one_of HT_.out (by kernel_rfl)) (by decide) (fun K hK => ?_)
                  refine goes_ Tryd.func61 (by kernel_rfl) rfl #[.int .i64 a1, .int .i64 x9_2] (by rfl) rfl rfl mapz ?_
                  with_reducible refine (dropperref05_closed.calls a1 x9_2 true _ A18.out).mono ?_
                  rintro e w' ⟨rfl, ⟨nd, rfl⟩⟩
                  refine ⟨_, rfl, ?_⟩
                  refine hK.out _ _ ⟨(blk_cell BK253.out 0).trans rfl, (blk_cell BK253.out 1).trans rfl, hHeld.2.2.1, hHeld.2.2.2⟩ (fun hHeld => ?_)
                  clear hK K
                  refine norm_ (a' := ?_) ?_ ?_
                  rotate_left
                  ·
                   show Act.put _ (some 32) _ = _
                   simp only [Act.put, List.setIfInBounds_toArray, List.set_cons_zero, List.set_cons_succ, i64_w, i32_w]
                   rfl
                  refine pst (i := 3) (N := some 33) (bz 16 15) (any_of HT_.out (by kernel_rfl)) ?_
                  refine pst (i := 4) (N := some 34) (bz 16 31) (any_of HT_.out (by kernel_rfl)) ?_
                  refine pst (i := 5) (N := some 35) (bz 16 63) (any_of HT_.out (by kernel_rfl)) ?_
                  refine pst (i := 9) (N := some 39) (bz 16 575) (any_of HT_.out (by kernel_rfl)) ?_
                  refine pst (i := 10) (N := some 40) (bz 16 1599) (any_of HT_.out (by kernel_rfl)) ?_
                  refine tst4 (i := 6) (N := some 36) (bz 16 1663) (take_ofW HT_.out HW_.out (by kernel_rfl)) hHeld ?_
                  refine pst (i := 7) (N := some 37) (bz 16 1791) (any_of HT_.out (by kernel_rfl)) ?_
                  refine tst4 (i := 8) (N := some 38) (bz 16 2047) (take_ofW HT_.out HW_.out (by kernel_rfl)) hHeld ?_
                  refine tst4 (i := 11) (N := some 41) (bz 16 4095) (take_ofW HT_.out HW_.out (by kernel_rfl)) hHeld ?_
                  refine pst (i := 12) (N := some 42) (bz 16 8191) (any_of HT_.out (by kernel_rfl)) ?_
                  refine tst4 (i := 13) (N := some 43) (bz 16 16383) (take_ofW HT_.out HW_.out (by kernel_rfl)) hHeld ?_
                  refine pst (i := 14) (N := some 44) (bz 16 32767) (any_of HT_.out (by kernel_rfl)) ?_
                  refine pst (i := 15) (N := some 45) (bz 16 65535) (any_of HT_.out (by kernel_rfl)) ?_
                  refine done_ (done_of HT_.out (by kernel_rfl)) ?_
                  try go_wp2
                  (try (rw [drewN_self w32]; generalize hq_ : World.drewN w32 _ = w32; have n0_ : Aside0 (Kd.R Kd.bool 4 w32 w.heap.size (fun _ => True) (.slice (some ⟨go8, 0, none⟩) x7_2.length co8) x7_2) := ⟨by rw [← hq_]; exact (ownx HO_7)⟩; have n1_ : Aside0 (w32.heap[gb247]? = some (.cells #[.int .i64 a0_0, .slice (some ad252) l0_1.length c0_1, .slice A0_2 l0_2.length c0_2] 25 (0, 0))) := ⟨by rw [← hq_]; exact blkz⟩; have n2_ : Aside0 (w32.heap[gb253]? = some (.cells #[.int .i64 ((rd_T69 l0_1 x9_2).f0), .int .i64 ((rd_T69 l0_1 x9_2).f1)] 69 (0, 0))) := ⟨by rw [← hq_]; exact blkz⟩; have n3_ : Aside0 (Below w.heap.size w w32) := ⟨by rw [← hq_]; exact bel⟩; clear HO_7 BK247 BK253 HB hq_; have HO_7 := n0_; have BK247 := n1_; have BK253 := n2_; have HB := n3_; clear n0_ n1_ n2_ n3_))
                  have n0_ := Aside0.mk (Kd.R_drew HO_7.out)
                  have n1_ := Aside0.mk (blk_drew BK247.out)
                  have n2_ := Aside0.mk (blk_drew BK253.out)
                  have n3_ := Aside0.mk (below_drew1 HB.out)
                  clear HO_7
                  clear BK247
                  clear BK253
                  clear HB
                  have HO_7 := n0_
                  have BK247 := n1_
                  have BK253 := n2_
                  have HB := n3_
                  clear n0_ n1_ n2_ n3_
                  have p25 : 0 ≤ (((rd_T69 l0_1 x9_2).f0) : Int) := of_decide_eq_true asz
                  have q25 : (((rd_T69 l0_1 x9_2).f0) : Int) < ((x7_2.length : Int) : Int) := of_decide_eq_true asz
                  obtain ⟨hx25_0, hf25_0⟩ := Kd.R_celln false HO_7.out (((rd_T69 l0_1 x9_2).f0) : Int) p25 q25
                  replace p25 := eq_true p25
                  replace q25 := eq_true q25
                  have HP34 := Kd.R_putn HO_7.out (((rd_T69 l0_1 x9_2).f0) : Int) true
                  rw [← Ny257.out] at HP34
                  have HQ34 := Aside0.mk HP34
                  clear HP34
                  have p26 : 0 ≤ (((rd_T69 l0_1 x9_2).f1) : Int) := of_decide_eq_true asz
                  have q26 : (((rd_T69 l0_1 x9_2).f1) : Int) < ((x7_2.length : Int) : Int) := of_decide_eq_true asz
                  obtain ⟨hx26_0, hf26_0⟩ := Kd.R_celln false HQ34.out (((rd_T69 l0_1 x9_2).f1) : Int) p26 q26
                  replace p26 := eq_true p26
                  replace q26 := eq_true q26
                  have HP35 := Kd.R_putn HQ34.out (((rd_T69 l0_1 x9_2).f1) : Int) true
                  rw [← Ny258.out] at HP35
                  have HQ35 := Aside0.mk HP35
                  clear HP35
                  refine start_ (n := 11) (S := fun w' => w'.cell? ⟨gb253, 0, none⟩ = some (.int .i64 ((rd_T69 l0_1 x9_2).f0)) ∧ w'.cell? ⟨gb253, 1, none⟩ = some (.int .i64 ((rd_T69 l0_1 x9_2).f1))) (ds := []) #[false, false, false, false, false, false, false, false, false, false, false] (by kernel_rfl) rfl rfl ⟨(blk_cell BK253.out 0).trans rfl, (blk_cell BK253.out 1).trans rfl⟩ (fun hHeld => ?_); refine with_tabW dropperref05_from.tab11 dropperref05_from.bits11 (fun HT_ HW_ => ?_)
                  generalize w32.drew = w33 at HO_7 BK247 BK253 HB HQ34 HQ35 hf25_0 hf26_0 hx25_0 hx26_0 hHeld ⊢
                  refine pst (i := 0) (N := some 46) (bz 11 1) (any_of HT_.out (by kernel_rfl)) ?_
                  refine pst (i := 1) (N := some 47) (bz 11 3) (any_of HT_.out (by kernel_rfl)) ?_
                  refine pst (i := 3) (N := some 49) (bz 11 11) (any_of HT_.out (by kernel_rfl)) ?_
                  refine pst (i := 4) (N := some 50) (bz 11 27) (any_of HT_.out (by kernel_rfl)) ?_
                  refine tst2 (i := 2) (N := some 48) (bz 11 31) (take_ofW HT_.out HW_.out (by kernel_rfl)) hHeld ?_
                  refine pst (i := 6) (N := some 52) (bz 11 95) (any_of HT_.out (by kernel_rfl)) ?_
                  refine tst2 (i := 5) (N := some 51) (bz 11 127) (take_ofW HT_.out HW_.out (by kernel_rfl)) hHeld ?_
                  refine one_ (i := 7) (N := none) #[true, true, true, true, true, true, true, true, false, false, false] rfl rfl (one_of HT_.out (by kernel_rfl)) (by decide) (fun K hK => ?_)
                  refine skip_ (w1 := ?_) (by rfl) rfl ?_ ?_
                  rotate_left
                  ·
                   go_simp
                   rfl
                  refine hK.out _ _ ⟨((cell_far (p := ⟨go8, _, none⟩) (fun e_ => (Kd.R_ne HO_7.out BK253.out (by decide)) (by have h_ : gb253 = go8 := e_; rw [h_]; rfl)) _).trans (hHeld.1)), ((cell_far (p := ⟨go8, _, none⟩) (fun e_ => (Kd.R_ne HO_7.out BK253.out (by decide)) (by have h_ : gb253 = go8 := e_; rw [h_]; rfl)) _).trans (hHeld.2))⟩ (fun hHeld => ?_)
                  clear hK K
                  refine pst (i := 8) (N := some 53) (bz 11 511) (any_of HT_.out (by kernel_rfl)) ?_
                  refine one_ (i := 9) (N := none) #[true, true, true, true, true, true, true, true, true, true, false] rfl rfl (one_of HT_.out (by kernel_rfl)) (by decide) (fun K hK => ?_)
                  refine skip_ (w1 := ?_) (by rfl) rfl ?_ ?_
                  rotate_left
                  ·
                   go_simp
                   rfl
                  refine hK.out _ _ ⟨((cell_far (p := ⟨go8, _, none⟩) (fun e_ => (Kd.R_ne HO_7.out BK253.out (by decide)) (by have h_ : gb253 = go8 := e_; rw [h_]; rfl)) _).trans (hHeld.1)), ((cell_far (p := ⟨go8, _, none⟩) (fun e_ => (Kd.R_ne HO_7.out BK253.out (by decide)) (by have h_ : gb253 = go8 := e_; rw [h_]; rfl)) _).trans (hHeld.2))⟩ (fun hHeld => ?_)
                  clear hK K
                  refine pst (i := 10) (N := some 8) (bz 11 2047) (any_of HT_.out (by kernel_rfl)) ?_
                  refine done_ (done_of HT_.out (by kernel_rfl)) ?_
                  try go_wp2
                  (try simp only [← hl7_2])
                  go_roundg k2
                  case measure => have := HK1.out; have := HK2.out; omega
                  case rel => exact ⟨(y258), (true), (wrap64 (x9_2 + 1)), rsz, rsz, H', ⟨by have := HK1.out; have := HK2.out; omega⟩, ⟨by (try simp only [hl7_1]); (try simp only [hl7_2]); (with_reducible repeat (first | apply Kd.R_alloc | apply Kd.R_drewN | apply Kd.R_drew)); exact HQ35.out⟩, ⟨by (try simp only [hl7_1]); (try simp only [hl7_2]); (with_reducible repeat (first | refine blk_drewN ?_ _ | refine blk_drew ?_ | refine blk_alloc ?_ _)); refine blk_far ?_ (by have h_ := Kd.R_ne HO_7.out BK247.out (by decide); intro e_; exact h_ (by rw [e_]; rfl)) _; (with_reducible repeat (first | refine blk_drewN ?_ _ | refine blk_drew ?_ | refine blk_alloc ?_ _)); refine blk_far ?_ (by have h_ := Kd.R_ne HO_7.out BK247.out (by decide); intro e_; exact h_ (by rw [e_]; rfl)) _; (with_reducible repeat (first | refine blk_drewN ?_ _ | refine blk_drew ?_ | refine blk_alloc ?_ _)); exact BK247.out⟩, ⟨by repeat (first | (with_reducible first | exact HB.out | apply below_alloc | apply pw_below_drewN | apply below_drew1 | refine below_set ?_ GB8.out | refine below_set ?_ GB8.out | refine below_set ?_ GE247.out | refine below_set ?_ GE253.out) | exact HB.out)⟩⟩
                 ·
                  rw [if_neg c24] at H
                  have c24b0 : ((rdOf false x7_2 ((rd_T69 l0_1 x9_2).f0)) != (rdOf false x7_2 ((rd_T69 l0_1 x9_2).f1))) = false := by simpa using c24
                  (try (have c24b1 : decide ((rdOf false x7_2 ((rd_T69 l0_1 x9_2).f0)) = (rdOf false x7_2 ((rd_T69 l0_1 x9_2).f1))) = true := by simpa using c24))
                  (try (have c24b2 : ((rdOf false x7_2 ((rd_T69 l0_1 x9_2).f0)) == (rdOf false x7_2 ((rd_T69 l0_1 x9_2).f1))) = true := by simpa using c24))
                  clear c24
                  have H' := Aside0.mk H
                  clear H
                  have hcz36_0 := blkc BK247.out 0 (.int .i64 a0_0) rfl
                  have hcz36_1 := blkc BK247.out 1 (.slice A0_1 l0_1.length c0_1) rfl
                  have hcz36_2 := blkc BK247.out 2 (.slice A0_2 l0_2.length c0_2) rfl
                  have hfz36_0 := blk_frozen BK247.out 0
                  have hfz36_1 := blk_frozen BK247.out 1
                  have hfz36_2 := blk_frozen BK247.out 2
                  have p252 : 0 ≤ (x9_2 : Int) := of_decide_eq_true asz
                  have q252 : x9_2 < (l0_1.length : Int) := of_decide_eq_true asz
                  obtain ⟨ad252, e252, hx252_0, hx252_1⟩ := at_T69 HR0_1.out x9_2 p252 q252
                  cases e252
                  replace hx252_0 := (HB.out.cell (World.block_lt_of_cell? w _ hx252_0)).trans hx252_0
                  replace hx252_1 := (HB.out.cell (World.block_lt_of_cell? w _ hx252_1)).trans hx252_1
                  replace p252 := eq_true p252
                  replace q252 := eq_true q252
                  try go_wp2_with (first | ((with_reducible refine gate_dst (N := 10) rfl ?_); refine box_event ?hg (N := 10) ?hd (cs := #[.int .i64 0, .int .i64 0]) (t := 69) ?hr ?_; (case hd => rfl); (case hg => rfl); (case hr => first | (go_simp; done) | (go_simp; rfl)); intro gb253 hg w37 hbox hb; have BK253 := Aside0.mk (hbox); have GW253 := bsz (w := w) hg; have GE253 := GW253; have NB247_253 := neL (g := gb247) hg; have NB253_247 := neR (g := gb247) hg; replace HO_7 := Aside0.mk (Kd.R_below (ownx HO_7) hb); replace BK247 := Aside0.mk (blk_below (g := gb247) blkz hb); replace HB := Aside0.mk (below_step bel hb); clear hb hbox hg; have hnb38 := NB253_247.out; have hnc38 := NB247_253.out; have hcz39_0 := blkc BK253.out 0 (.int .i64 0) rfl; have hcz39_1 := blkc BK253.out 1 (.int .i64 0) rfl; have hfz39_0 := blk_frozen BK253.out 0; have hfz39_1 := blk_frozen BK253.out 1))
                  have n0_ : Aside0 (Kd.R Kd.bool 4 ((w37.setCell ⟨gb253, 0, none⟩ (.int .i64 ((rd_T69 l0_1 x9_2).f0))).setCell ⟨gb253, 1, none⟩ (.int .i64 ((rd_T69 l0_1 x9_2).f1))) w.heap.size (fun _ => True) (.slice (some ⟨go8, 0, none⟩) x7_2.length co8) x7_2) := ⟨by (with_reducible repeat (first | apply Kd.R_alloc | apply Kd.R_drewN | apply Kd.R_drew)); exact Kd.R_mono (Kd.R_far (p := ⟨gb253, 1, none⟩) (Kd.R_far (p := ⟨gb253, 0, none⟩) (Kd.R_types HO_7.out BK253.out (by decide)) (fun _ hk => hk.2) (.int .i64 ((rd_T69 l0_1 x9_2).f0))) (fun _ hk => hk.2) (.int .i64 ((rd_T69 l0_1 x9_2).f1))) (fun _ hk => trivial)⟩
                  have n1_ : Aside0 (((w37.setCell ⟨gb253, 0, none⟩ (.int .i64 ((rd_T69 l0_1 x9_2).f0))).setCell ⟨gb253, 1, none⟩ (.int .i64 ((rd_T69 l0_1 x9_2).f1))).heap[gb247]? = some (.cells #[.int .i64 a0_0, .slice (some ad252) l0_1.length c0_1, .slice A0_2 l0_2.length c0_2] 25 (0, 0))) := ⟨by (with_reducible repeat (first | refine blk_drewN ?_ _ | refine blk_drew ?_ | refine blk_alloc ?_ _)); refine blk_far ?_ NB247_253.out _; (with_reducible repeat (first | refine blk_drewN ?_ _ | refine blk_drew ?_ | refine blk_alloc ?_ _)); refine blk_far ?_ NB247_253.out _; (with_reducible repeat (first | refine blk_drewN ?_ _ | refine blk_drew ?_ | refine blk_alloc ?_ _)); exact BK247.out⟩
                  have n2_ : Aside0 (((w37.setCell ⟨gb253, 0, none⟩ (.int .i64 ((rd_T69 l0_1 x9_2).f0))).setCell ⟨gb253, 1, none⟩ (.int .i64 ((rd_T69 l0_1 x9_2).f1))).heap[gb253]? = some (.cells #[.int .i64 ((rd_T69 l0_1 x9_2).f0), .int .i64 ((rd_T69 l0_1 x9_2).f1)] 69 (0, 0))) := ⟨by (with_reducible repeat (first | refine blk_drewN ?_ _ | refine blk_drew ?_ | refine blk_alloc ?_ _)); refine blk_put (cs := #[.int .i64 ((rd_T69 l0_1 x9_2).f0), .int .i64 0]) ?_ 1 _ rfl; (with_reducible repeat (first | refine blk_drewN ?_ _ | refine blk_drew ?_ | refine blk_alloc ?_ _)); refine blk_put (cs := #[.int .i64 0, .int .i64 0]) ?_ 0 _ rfl; (with_reducible repeat (first | refine blk_drewN ?_ _ | refine blk_drew ?_ | refine blk_alloc ?_ _)); exact BK253.out⟩
                  have n3_ : Aside0 (Below w.heap.size w ((w37.setCell ⟨gb253, 0, none⟩ (.int .i64 ((rd_T69 l0_1 x9_2).f0))).setCell ⟨gb253, 1, none⟩ (.int .i64 ((rd_T69 l0_1 x9_2).f1)))) := ⟨bel⟩
                  (try clear HO_7)
                  (try clear BK247)
                  (try clear BK253)
                  (try clear HB)
                  generalize ((w37.setCell ⟨gb253, 0, none⟩ (.int .i64 ((rd_T69 l0_1 x9_2).f0))).setCell ⟨gb253, 1, none⟩ (.int .i64 ((rd_T69 l0_1 x9_2).f1))) = w40 at n0_ n1_ n2_ n3_ ⊢
                  have HO_7 := n0_
                  have BK247 := n1_
                  have BK253 := n2_
                  have HB := n3_
                  clear n0_ n1_ n2_ n3_
                  have n0_ := Aside0.mk (Kd.R_drew HO_7.out)
                  have n1_ := Aside0.mk (blk_drew BK247.out)
                  have n2_ := Aside0.mk (blk_drew BK253.out)
                  have n3_ := Aside0.mk (below_drew1 HB.out)
                  clear HO_7
                  clear BK247
                  clear BK253
                  clear HB
                  have HO_7 := n0_
                  have BK247 := n1_
                  have BK253 := n2_
                  have HB := n3_
                  clear n0_ n1_ n2_ n3_
                  have p255 : 0 ≤ (((rd_T69 l0_1 x9_2).f0) : Int) := of_decide_eq_true asz
                  have q255 : ((rd_T69 l0_1 x9_2).f0) < (x7_2.length : Int) := of_decide_eq_true asz
                  obtain ⟨ad255, e255, hx255_0⟩ := Kd.at_bool (Kd.R_reads' HO_7.out).2.2 ((rd_T69 l0_1 x9_2).f0) p255 q255
                  obtain rfl : (⟨go8, 0, none⟩ : Addr) = ad255 := (by injection e255)
                  (first | simp only [add_plain] at hx255_0 | simp only [add_at] at hx255_0 | simp only [Addr.add, Nat.zero_add] at hx255_0 | skip)
                  replace p255 := eq_true p255
                  replace q255 := eq_true q255
                  have p256 : 0 ≤ (((rd_T69 l0_1 x9_2).f1) : Int) := of_decide_eq_true asz
                  have q256 : ((rd_T69 l0_1 x9_2).f1) < (x7_2.length : Int) := of_decide_eq_true asz
                  obtain ⟨ad256, e256, hx256_0⟩ := Kd.at_bool (Kd.R_reads' HO_7.out).2.2 ((rd_T69 l0_1 x9_2).f1) p256 q256
                  obtain rfl : (⟨go8, 0, none⟩ : Addr) = ad256 := (by injection e256)
                  (first | simp only [add_plain] at hx256_0 | simp only [add_at] at hx256_0 | simp only [Addr.add, Nat.zero_add] at hx256_0 | skip)
                  replace p256 := eq_true p256
                  replace q256 := eq_true q256
                  refine start_ (n := 16) (S := fun w' => w'.cell? ⟨gb253, 0, none⟩ = some (.int .i64 ((rd_T69 l0_1 x9_2).f0)) ∧ w'.cell? ⟨gb253, 1, none⟩ = some (.int .i64 ((rd_T69 l0_1 x9_2).f1)) ∧ w'.cell? ⟨go8, (((rd_T69 l0_1 x9_2).f0)).toNat, none⟩ = some (.bool (rdOf false x7_2 ((rd_T69 l0_1 x9_2).f0))) ∧ w'.cell? ⟨go8, (((rd_T69 l0_1 x9_2).f1)).toNat, none⟩ = some (.bool (rdOf false x7_2 ((rd_T69 l0_1 x9_2).f1)))) (ds := []) #[false, false, false, false, false, false, false, false, false, false, false, false, false, false, false, false] (by kernel_rfl) rfl rfl ⟨(blk_cell BK253.out 0).trans rfl, (blk_cell BK253.out 1).trans rfl, hx255_0, hx256_0⟩ (fun hHeld => ?_); refine with_tabW dropperref05_from.tab10 dropperref05_from.bits10 (fun HT_ HW_ => ?_)
                  generalize w40.drew = w41 at HO_7 BK247 BK253 HB hx255_0 hx256_0 hHeld ⊢
                  refine pst (i := 0) (N := some 30) (bz 16 1) (any_of HT_.out (by kernel_rfl)) ?_
                  refine pst (i := 1) (N := some 31) (bz 16 3) (any_of HT_.out (by kernel_rfl)) ?_
                  refine one_ (i := 2) (N := some 32) #[true, true, true, false, false, false, false, false, false, false, false, false, false, false, false, false] rfl rfl (one_of HT_.out (by kernel_rfl)) (by decide) (fun K hK => ?_)
                  refine goes_ Tryd.func61 (by kernel_rfl) rfl #[.int .i64 a1, .int .i64 x9_2] (by rfl) rfl rfl mapz ?_
                  with_reducible refine (dropperref05_closed.calls a1 x9_2 true _ A18.out).mono ?_
                  rintro e w' ⟨rfl, ⟨nd, rfl⟩⟩
                  refine ⟨_, rfl, ?_⟩
                  refine hK.out _ _ ⟨(blk_cell BK253.out 0).trans rfl, (blk_cell BK253.out 1).trans rfl, hHeld.2.2.1, hHeld.2.2.2⟩ (fun hHeld => ?_)
                  clear hK K
                  refine norm_ (a' := ?_) ?_ ?_
                  rotate_left
                  ·
                   show Act.put _ (some 32) _ = _
                   simp only [Act.put, List.setIfInBounds_toArray, List.set_cons_zero, List.set_cons_succ, i64_w, i32_w]
                   rfl
                  refine pst (i := 3) (N := some 33) (bz 16 15) (any_of HT_.out (by kernel_rfl)) ?_
                  refine pst (i := 4) (N := some 34) (bz 16 31) (any_of HT_.out (by kernel_rfl)) ?_
                  refine pst (i := 5) (N := some 35) (bz 16 63) (any_of HT_.out (by kernel_rfl)) ?_
                  refine pst (i := 9) (N := some 39) (bz 16 575) (any_of HT_.out (by kernel_rfl)) ?_
                  refine pst (i := 10) (N := some 40) (bz 16 1599) (any_of HT_.out (by kernel_rfl)) ?_
                  refine tst4 (i := 6) (N := some 36) (bz 16 1663) (take_ofW HT_.out HW_.out (by kernel_rfl)) hHeld ?_
                  refine pst (i := 7) (N := some 37) (bz 16 1791) (any_of HT_.out (by kernel_rfl)) ?_
                  refine tst4 (i := 8) (N := some 38) (bz 16 2047) (take_ofW HT_.out HW_.out (by kernel_rfl)) hHeld ?_
                  refine tst4 (i := 11) (N := some 41) (bz 16 4095) (take_ofW HT_.out HW_.out (by kernel_rfl)) hHeld ?_
                  refine pst (i := 12) (N := some 42) (bz 16 8191) (any_of HT_.out (by kernel_rfl)) ?_
                  refine tst4 (i := 13) (N := some 43) (bz 16 16383) (take_ofW HT_.out HW_.out (by kernel_rfl)) hHeld ?_
                  refine pst (i := 14) (N := some 44) (bz 16 32767) (any_of HT_.out (by kernel_rfl)) ?_
                  refine pst (i := 15) (N := some 45) (bz 16 65535) (any_of HT_.out (by kernel_rfl)) ?_
                  refine done_ (done_of HT_.out (by kernel_rfl)) ?_
                  try go_wp2
                  (try simp only [← hl7_2])
                  go_roundg k2
                  case measure => have := HK1.out; have := HK2.out; omega
                  case rel => exact ⟨(x7_2), (x8_2), (wrap64 (x9_2 + 1)), rsz, rsz, H', ⟨by have := HK1.out; have := HK2.out; omega⟩, ⟨by (try simp only [hl7_1]); (try simp only [hl7_2]); (with_reducible repeat (first | apply Kd.R_alloc | apply Kd.R_drewN | apply Kd.R_drew)); exact HO_7.out⟩, ⟨by (try simp only [hl7_1]); (try simp only [hl7_2]); (with_reducible repeat (first | refine blk_drewN ?_ _ | refine blk_drew ?_ | refine blk_alloc ?_ _)); exact BK247.out⟩, ⟨bel⟩⟩
                ·
                 rw [if_neg c23] at H
                 exact absurd H (by simp)
               ·
                rw [if_neg c22] at H
                exact absurd H (by simp)
              ·
               rw [if_neg c21] at H
               exact absurd H (by simp)
             ·
              rw [if_neg c20] at H
              exact absurd H (by simp)
            ·
             replace c19 := Bool.eq_false_iff.mpr c19
             subst c19
             have H1 : (dropperref05_from.l1 k2 a1 x7_2 x8_2 (wrap64 (x9_2 + 1)) a0_0 l0_1 l0_2) = some r := by rw [if_neg (show ¬ (false = true) by decide)] at H; exact H
             clear H
             have H := H1
             clear H1
             have H' := Aside0.mk H
             clear H
             have hcz42_0 := blkc BK247.out 0 (.int .i64 a0_0) rfl
             have hcz42_1 := blkc BK247.out 1 (.slice A0_1 l0_1.length c0_1) rfl
             have hcz42_2 := blkc BK247.out 2 (.slice A0_2 l0_2.length c0_2) rfl
             have hfz42_0 := blk_frozen BK247.out 0
             have hfz42_1 := blk_frozen BK247.out 1
             have hfz42_2 := blk_frozen BK247.out 2
             have p252 : 0 ≤ (x9_2 : Int) := of_decide_eq_true asz
             have q252 : x9_2 < (l0_1.length : Int) := of_decide_eq_true asz
             obtain ⟨ad252, e252, hx252_0, hx252_1⟩ := at_T69 HR0_1.out x9_2 p252 q252
             cases e252
             replace hx252_0 := (HB.out.cell (World.block_lt_of_cell? w _ hx252_0)).trans hx252_0
             replace hx252_1 := (HB.out.cell (World.block_lt_of_cell? w _ hx252_1)).trans hx252_1
             replace p252 := eq_true p252
             replace q252 := eq_true q252
             try go_wp2_with (first | ((with_reducible refine gate_dst (N := 10) rfl ?_); refine box_event ?hg (N := 10) ?hd (cs := #[.int .i64 0, .int .i64 0]) (t := 69) ?hr ?_; (case hd => rfl); (case hg => rfl); (case hr => first | (go_simp; done) | (go_simp; rfl)); intro gb253 hg w43 hbox hb; have BK253 := Aside0.mk (hbox); have GW253 := bsz (w := w) hg; have GE253 := GW253; have NB247_253 := neL (g := gb247) hg; have NB253_247 := neR (g := gb247) hg; replace HO_7 := Aside0.mk (Kd.R_below (ownx HO_7) hb); replace BK247 := Aside0.mk (blk_below (g := gb247) blkz hb); replace HB := Aside0.mk (below_step bel hb); clear hb hbox hg; have hnb44 := NB253_247.out; have hnc44 := NB247_253.out; have hcz45_0 := blkc BK253.out 0 (.int .i64 0) rfl; have hcz45_1 := blkc BK253.out 1 (.int .i64 0) rfl; have hfz45_0 := blk_frozen BK253.out 0; have hfz45_1 := blk_frozen BK253.out 1))
             have n0_ : Aside0 (Kd.R Kd.bool 4 ((w43.setCell ⟨gb253, 0, none⟩ (.int .i64 ((rd_T69 l0_1 x9_2).f0))).setCell ⟨gb253, 1, none⟩ (.int .i64 ((rd_T69 l0_1 x9_2).f1))) w.heap.size (fun _ => True) (.slice (some ⟨go8, 0, none⟩) x7_2.length co8) x7_2) := ⟨by (with_reducible repeat (first | apply Kd.R_alloc | apply Kd.R_drewN | apply Kd.R_drew)); exact Kd.R_mono (Kd.R_far (p := ⟨gb253, 1, none⟩) (Kd.R_far (p := ⟨gb253, 0, none⟩) (Kd.R_types HO_7.out BK253.out (by decide)) (fun _ hk => hk.2) (.int .i64 ((rd_T69 l0_1 x9_2).f0))) (fun _ hk => hk.2) (.int .i64 ((rd_T69 l0_1 x9_2).f1))) (fun _ hk => trivial)⟩
             have n1_ : Aside0 (((w43.setCell ⟨gb253, 0, none⟩ (.int .i64 ((rd_T69 l0_1 x9_2).f0))).setCell ⟨gb253, 1, none⟩ (.int .i64 ((rd_T69 l0_1 x9_2).f1))).heap[gb247]? = some (.cells #[.int .i64 a0_0, .slice (some ad252) l0_1.length c0_1, .slice A0_2 l0_2.length c0_2] 25 (0, 0))) := ⟨by (with_reducible repeat (first | refine blk_drewN ?_ _ | refine blk_drew ?_ | refine blk_alloc ?_ _)); refine blk_far ?_ NB247_253.out _; (with_reducible repeat (first | refine blk_drewN ?_ _ | refine blk_drew ?_ | refine blk_alloc ?_ _)); refine blk_far ?_ NB247_253.out _; (with_reducible repeat (first | refine blk_drewN ?_ _ | refine blk_drew ?_ | refine blk_alloc ?_ _)); exact BK247.out⟩
             have n2_ : Aside0 (((w43.setCell ⟨gb253, 0, none⟩ (.int .i64 ((rd_T69 l0_1 x9_2).f0))).setCell ⟨gb253, 1, none⟩ (.int .i64 ((rd_T69 l0_1 x9_2).f1))).heap[gb253]? = some (.cells #[.int .i64 ((rd_T69 l0_1 x9_2).f0), .int .i64 ((rd_T69 l0_1 x9_2).f1)] 69 (0, 0))) := ⟨by (with_reducible repeat (first | refine blk_drewN ?_ _ | refine blk_drew ?_ | refine blk_alloc ?_ _)); refine blk_put (cs := #[.int .i64 ((rd_T69 l0_1 x9_2).f0), .int .i64 0]) ?_ 1 _ rfl; (with_reducible repeat (first | refine blk_drewN ?_ _ | refine blk_drew ?_ | refine blk_alloc ?_ _)); refine blk_put (cs := #[.int .i64 0, .int .i64 0]) ?_ 0 _ rfl; (with_reducible repeat (first | refine blk_drewN ?_ _ | refine blk_drew ?_ | refine blk_alloc ?_ _)); exact BK253.out⟩
             have n3_ : Aside0 (Below w.heap.size w ((w43.setCell ⟨gb253, 0, none⟩ (.int .i64 ((rd_T69 l0_1 x9_2).f0))).setCell ⟨gb253, 1, none⟩ (.int .i64 ((rd_T69 l0_1 x9_2).f1)))) := ⟨bel⟩
             (try clear HO_7)
             (try clear BK247)
             (try clear BK253)
             (try clear HB)
             generalize ((w43.setCell ⟨gb253, 0, none⟩ (.int .i64 ((rd_T69 l0_1 x9_2).f0))).setCell ⟨gb253, 1, none⟩ (.int .i64 ((rd_T69 l0_1 x9_2).f1))) = w46 at n0_ n1_ n2_ n3_ ⊢
             have HO_7 := n0_
             have BK247 := n1_
             have BK253 := n2_
             have HB := n3_
             clear n0_ n1_ n2_ n3_
             have n0_ := Aside0.mk (Kd.R_drew HO_7.out)
             have n1_ := Aside0.mk (blk_drew BK247.out)
             have n2_ := Aside0.mk (blk_drew BK253.out)
             have n3_ := Aside0.mk (below_drew1 HB.out)
             clear HO_7
             clear BK247
             clear BK253
             clear HB
             have HO_7 := n0_
             have BK247 := n1_
             have BK253 := n2_
             have HB := n3_
             clear n0_ n1_ n2_ n3_
             refine start_ (n := 16) (S := fun w' => True) (ds := []) #[false, false, false, false, false, false, false, false, false, false, false, false, false, false, false, false] (by kernel_rfl) rfl rfl trivial (fun hHeld => ?_); refine with_tabW dropperref05_from.tab10 dropperref05_from.bits10 (fun HT_ HW_ => ?_)
             generalize w46.drew = w47 at HO_7 BK247 BK253 HB hHeld ⊢
             refine pst (i := 0) (N := some 30) (bz 16 1) (any_of HT_.out (by kernel_rfl)) ?_
             refine pst (i := 1) (N := some 31) (bz 16 3) (any_of HT_.out (by kernel_rfl)) ?_
             refine one_ (i := 2) (N := some 32) #[true, true, true, false, false, false, false, false, false, false, false, false, false, false, false, false] rfl rfl (one_of HT_.out (by kernel_rfl)) (by decide) (fun K hK => ?_)
             refine goes_ Tryd.func61 (by kernel_rfl) rfl #[.int .i64 a1, .int .i64 x9_2] (by rfl) rfl rfl mapz ?_
             with_reducible refine (dropperref05_closed.calls a1 x9_2 false _ A18.out).mono ?_
             rintro e w' ⟨rfl, ⟨nd, rfl⟩⟩
             refine ⟨_, rfl, ?_⟩
             refine hK.out _ _ trivial (fun hHeld => ?_)
             clear hK K
             refine norm_ (a' := ?_) ?_ ?_
             rotate_left
             ·
              show Act.put _ (some 32) _ = _
              simp only [Act.put, List.setIfInBounds_toArray, List.set_cons_zero, List.set_cons_succ, i64_w, i32_w]
              rfl
             refine pst (i := 3) (N := some 33) (bz 16 15) (any_of HT_.out (by kernel_rfl)) ?_
             refine pso (i := 4) (N := some 34) (bz 16 31) (any_of HT_.out (by kernel_rfl)) ?_
             refine pso (i := 5) (N := some 35) (bz 16 63) (any_of HT_.out (by kernel_rfl)) ?_
             refine pso (i := 6) (N := some 36) (bz 16 127) (any_of HT_.out (by kernel_rfl)) ?_
             refine pso (i := 7) (N := some 37) (bz 16 255) (any_of HT_.out (by kernel_rfl)) ?_
             refine pso (i := 8) (N := some 38) (bz 16 511) (any_of HT_.out (by kernel_rfl)) ?_
             refine pso (i := 9) (N := some 39) (bz 16 1023) (any_of HT_.out (by kernel_rfl)) ?_
             refine pso (i := 10) (N := some 40) (bz 16 2047) (any_of HT_.out (by kernel_rfl)) ?_
             refine pso (i := 11) (N := some 41) (bz 16 4095) (any_of HT_.out (by kernel_rfl)) ?_
             refine pso (i := 12) (N := some 42) (bz 16 8191) (any_of HT_.out (by kernel_rfl)) ?_
             refine pso (i := 13) (N := some 43) (bz 16 16383) (any_of HT_.out (by kernel_rfl)) ?_
             refine pso (i := 14) (N := some 44) (bz 16 32767) (any_of HT_.out (by kernel_rfl)) ?_
             refine pst (i := 15) (N := some 45) (bz 16 65535) (any_of HT_.out (by kernel_rfl)) ?_
             refine done_ (done_of HT_.out (by kernel_rfl)) ?_
             try go_wp2
             (try simp only [← hl7_2])
             go_roundg k2
             case measure => have := HK1.out; have := HK2.out; omega
             case rel => exact ⟨(x7_2), (x8_2), (wrap64 (x9_2 + 1)), rsz, rsz, H', ⟨by have := HK1.out; have := HK2.out; omega⟩, ⟨by (try simp only [hl7_1]); (try simp only [hl7_2]); (with_reducible repeat (first | apply Kd.R_alloc | apply Kd.R_drewN | apply Kd.R_drew)); exact HO_7.out⟩, ⟨by (try simp only [hl7_1]); (try simp only [hl7_2]); (with_reducible repeat (first | refine blk_drewN ?_ _ | refine blk_drew ?_ | refine blk_alloc ?_ _)); exact BK247.out⟩, ⟨bel⟩⟩
           ·
            rw [if_neg c17] at H
            exact absurd H (by simp)
          ·
           rw [if_neg c16] at H
           have c16b0 : decide (x9_2 < (l0_1.length : Int)) = false := decide_eq_false c16
           try (have c16b0hl7_1 := c16b0; simp only [hl7_1] at c16b0hl7_1)
           try (have c16b0hl7_2 := c16b0; simp only [hl7_2] at c16b0hl7_2)
           clear c16
           have H' := Aside0.mk H
           clear H
           have hcz48_0 := blkc BK247.out 0 (.int .i64 a0_0) rfl
           have hcz48_1 := blkc BK247.out 1 (.slice A0_1 l0_1.length c0_1) rfl
           have hcz48_2 := blkc BK247.out 2 (.slice A0_2 l0_2.length c0_2) rfl
           have hfz48_0 := blk_frozen BK247.out 0
           have hfz48_1 := blk_frozen BK247.out 1
           have hfz48_2 := blk_frozen BK247.out 2
           go_wp2
           (try simp only [← hl7_1, ← hl7_2])
           go_roundg k2
           case measure => have := HK1.out; have := HK2.out; omega
           case rel => exact ⟨(x7_2), (x8_2), rsz, H', ⟨by have := HK1.out; have := HK2.out; omega⟩, ⟨by (try simp only [hl7_1]); (try simp only [hl7_2]); (with_reducible repeat (first | apply Kd.R_alloc | apply Kd.R_drewN | apply Kd.R_drew)); exact HO_7.out⟩, ⟨by (try simp only [hl7_1]); (try simp only [hl7_2]); (with_reducible repeat (first | refine blk_drewN ?_ _ | refine blk_drew ?_ | refine blk_alloc ?_ _)); exact BK247.out⟩, ⟨bel⟩⟩
       ·
        replace c15 := Bool.eq_false_iff.mpr c15
        subst c15
        have H1 : (some x7_1) = some r := by rw [if_neg (show ¬ (false = true) by decide)] at H; exact H
        clear H
        have H := H1
        clear H1
        obtain rfl := Option.some.inj H
        go_wp2
        go_ret
        exact ⟨_, ezz, by (with_reducible repeat (first | apply Kd.R_alloc | apply Kd.R_drewN | apply Kd.R_drew)); exact HO_7.out, bel⟩
    ·
     rw [if_neg c7] at H
     exact absurd H (by simp)
   ·
    rw [if_neg c6] at H
    exact absurd H (by simp)
  ·
   rw [if_neg c5] at H
   exact absurd H (by simp)
 ·
  rw [if_neg c4] at H
  exact absurd H (by simp)

/-! ### dropperref05_live: function 49 -/
mutual
def dropperref05_live.l0 : Nat → Int → List Int → Int → Int → List (S69) → List (S71) → Option (List Int)
 | 0, _, _, _, _, _, _ => none
 | k + 1, x1, x5, x6, x260000, x260001, x260002 => if x6 < (x260002.length : Int) then (if 0 ≤ x6 then ((dropperref05_from.f k x260000 x260001 x260002 x1 ((rd_T71 x260002 x6).f0)).bind fun t264 => (dropperref05_live.l1 k x1 x5 x6 t264 0 x260000 x260001 x260002)) else (none)) else (some x5)
def dropperref05_live.l1 : Nat → Int → List Int → Int → List Bool → Int → Int → List (S69) → List (S71) → Option (List Int)
 | 0, _, _, _, _, _, _, _, _ => none
 | k + 1, x1, x5, x6, x7, x8, x260000, x260001, x260002 => if x8 < x260000 then (if 0 ≤ x6 then (if x6 < (x260002.length : Int) then (if 0 ≤ x8 then (if x8 < (x7.length : Int) then (if rdOf false x7 x8 = true then (if x8 < (x5.length : Int) then (if (rd x5 x8) = 0 then (dropperref05_live.l1 k x1 (x5.set (x8 : Int).toNat ((rd_T71 x260002 x6).f1)) x6 x7 (wrap64 (x8 + 1)) x260000 x260001 x260002) else (if (rd x5 x8) = ((rd_T71 x260002 x6).f1) then (dropperref05_live.l1 k x1 x5 x6 x7 (wrap64 (x8 + 1)) x260000 x260001 x260002) else (dropperref05_live.l1 k x1 (x5.set (x8 : Int).toNat (-1)) x6 x7 (wrap64 (x8 + 1)) x260000 x260001 x260002))) else (none)) else (dropperref05_live.l1 k x1 x5 x6 x7 (wrap64 (x8 + 1)) x260000 x260001 x260002)) else (none)) else (none)) else (none)) else (none)) else (dropperref05_live.l0 k x1 x5 (wrap64 (x6 + 1)) x260000 x260001 x260002)
end
def dropperref05_live.f (k : Nat) (a0_0 : Int) (l0_1 : List (S69)) (l0_2 : List (S71)) (a1 : Int) : Option (List Int) := if 0 ≤ a0_0 then (if (a0_0 : Int).toNat ≤ 35184372088832 then (dropperref05_live.l0 k a1 (List.replicate (a0_0 : Int).toNat 0) 0 a0_0 l0_1 l0_2) else (none)) else (none)
theorem dropperref05_live.mono_l : ∀ k, (∀ y0 y1 y2 y3 y4 y5, LeO (dropperref05_live.l0 k y0 y1 y2 y3 y4 y5) (dropperref05_live.l0 (k + 1) y0 y1 y2 y3 y4 y5)) ∧ (∀ y0 y1 y2 y3 y4 y5 y6 y7, LeO (dropperref05_live.l1 k y0 y1 y2 y3 y4 y5 y6 y7) (dropperref05_live.l1 (k + 1) y0 y1 y2 y3 y4 y5 y6 y7))
 | 0 => ⟨fun _ _ _ _ _ _ r h => by simp [dropperref05_live.l0] at h, fun _ _ _ _ _ _ _ _ r h => by simp [dropperref05_live.l1] at h⟩
 | k + 1 => by
  obtain ⟨ih0, ih1⟩ := dropperref05_live.mono_l k
  refine ⟨?_, ?_⟩
  ·
   intro y0 y1 y2 y3 y4 y5
   unfold dropperref05_live.l0
   repeat' first
   | (with_reducible exact ih0 _ _ _ _ _ _)
   | (with_reducible exact ih1 _ _ _ _ _ _ _ _)
   | (with_reducible exact dropperref05_from.mono _ _ _ _ _ _)
   | (with_reducible exact LeO.refl _)
   | (with_reducible exact LeO.none _)
   | (with_reducible refine LeO.ite ?_ ?_)
   | (with_reducible refine LeO.bind ?_ (fun _ => ?_))
   | exact ih0 _ _ _ _ _ _
   | exact ih1 _ _ _ _ _ _ _ _
   | exact dropperref05_from.mono _ _ _ _ _ _
   | exact LeO.none _
   | refine LeO.ite ?_ ?_
   | refine LeO.bind ?_ (fun _ => ?_)
  ·
   intro y0 y1 y2 y3 y4 y5 y6 y7
   unfold dropperref05_live.l1
   repeat' first
   | (with_reducible exact ih0 _ _ _ _ _ _)
   | (with_reducible exact ih1 _ _ _ _ _ _ _ _)
   | (with_reducible exact dropperref05_from.mono _ _ _ _ _ _)
   | (with_reducible exact LeO.refl _)
   | (with_reducible exact LeO.none _)
   | (with_reducible refine LeO.ite ?_ ?_)
   | (with_reducible refine LeO.bind ?_ (fun _ => ?_))
   | exact ih0 _ _ _ _ _ _
   | exact ih1 _ _ _ _ _ _ _ _
   | exact dropperref05_from.mono _ _ _ _ _ _
   | exact LeO.none _
   | refine LeO.ite ?_ ?_
   | refine LeO.bind ?_ (fun _ => ?_)
theorem dropperref05_live.mono : ∀ a0 a1 a2 a3 k, LeO (dropperref05_live.f k a0 a1 a2 a3) (dropperref05_live.f (k + 1) a0 a1 a2 a3) := by
 intro a0 a1 a2 a3 k
 obtain ⟨ih0, ih1⟩ := dropperref05_live.mono_l k
 unfold dropperref05_live.f
 repeat' first
   | (with_reducible exact ih0 _ _ _ _ _ _)
   | (with_reducible exact ih1 _ _ _ _ _ _ _ _)
   | (with_reducible exact dropperref05_from.mono _ _ _ _ _ _)
   | (with_reducible exact LeO.refl _)
   | (with_reducible exact LeO.none _)
   | (with_reducible refine LeO.ite ?_ ?_)
   | (with_reducible refine LeO.bind ?_ (fun _ => ?_))
   | exact ih0 _ _ _ _ _ _
   | exact ih1 _ _ _ _ _ _ _ _
   | exact dropperref05_from.mono _ _ _ _ _ _
   | exact LeO.none _
   | refine LeO.ite ?_ ?_
   | refine LeO.bind ?_ (fun _ => ?_)
def dropperref05_live.T5 : Bool × List (List Nat × List Nat) := (true, [([], []), ([], []), ([], []), ([2], [2]), ([], []), ([3, 4], [3, 4]), ([5], [5]), ([6], [6]), ([0, 1, 7], [0, 1, 7]), ([8, 8, 0, 1, 2, 3, 4, 5, 6, 7, 8], [8])])
def dropperref05_live.B5 : List Nat := [0, 0, 0, 4, 0, 28, 60, 124, 255, 511]
theorem dropperref05_live.tab5 : rtab .any (opsOf Tryd.f49 5) = dropperref05_live.T5 := by kernel_rfl
theorem dropperref05_live.bits5 : waitsOk dropperref05_live.T5.2 dropperref05_live.B5 = true := by kernel_rfl
set_option maxHeartbeats 8000000 in
set_option maxRecDepth 100000 in
theorem dropperref05_live.calls (k : Nat) (a0_0 : Int) (A0_1 : Option Addr) (c0_1 : Nat) (l0_1 : List (S69)) (A0_2 : Option Addr) (c0_2 : Nat) (l0_2 : List (S71)) (a1 : Int) (r : List Int) (w : World) (hr0_1 : Kd.C k69 w A0_1 l0_1.length l0_1) (hc0_1 : l0_1.length ≤ c0_1) (hr0_2 : Kd.C k71 w A0_2 l0_2.length l0_2) (hc0_2 : l0_2.length ≤ c0_2) (h : dropperref05_live.f k a0_0 l0_1 l0_2 a1 = some r) :
  Calls Tryd.prog 49 #[.agg #[.int .i64 a0_0, .slice A0_1 l0_1.length c0_1, .slice A0_2 l0_2.length c0_2], .int .i64 a1] w fun e w' => ∃ v0_ : Value, e = .returned (v0_) ∧ Kd.R (Kd.int .i64) 3 w' w.heap.size (fun _ => True) v0_ r ∧ Below w.heap.size w w' := by
 have hu25 := Tryd.underlying25
 have HR0_1 := Aside0.mk hr0_1
 have HC0_1 := Aside0.mk hc0_1
 clear hr0_1 hc0_1
 have HR0_2 := Aside0.mk hr0_2
 have HC0_2 := Aside0.mk hc0_2
 clear hr0_2 hc0_2
 have HB := Aside0.mk (Below.refl w.heap.size w)
 have H : (if 0 ≤ a0_0 then (if (a0_0 : Int).toNat ≤ 35184372088832 then (dropperref05_live.l0 k a1 (List.replicate (a0_0 : Int).toNat 0) 0 a0_0 l0_1 l0_2) else (none)) else (none)) = some r := h
 clear h
 by_cases c3 : 0 ≤ a0_0
 ·
  rw [if_pos c3] at H
  have c3b0 := eq_true c3
  have c3b1 : decide (0 ≤ a0_0) = true := decide_eq_true c3
  clear c3
  by_cases c4 : (a0_0 : Int).toNat ≤ 35184372088832
  ·
   rw [if_pos c4] at H
   have c4b0 := eq_true c4
   have c4b1 : decide ((a0_0 : Int).toNat ≤ 35184372088832) = true := decide_eq_true c4
   clear c4
   obtain ⟨y260, hy260⟩ : ∃ y_ : List Int, y_ = (List.replicate (a0_0 : Int).toNat 0) := ⟨_, rfl⟩
   replace H : (dropperref05_live.l0 k a1 y260 0 a0_0 l0_1 l0_2) = some r := by first | (rw [hy260]; with_reducible exact H) | (have H2_ := (Option.bind_some _ _).symm.trans H; rw [hy260]; with_reducible exact H2_) | (have H2_ := (Option.bind_some _ _).symm.trans H; with_reducible exact H2_) | with_reducible exact H | (rw [hy260]; exact H) | exact H
   have Ny260 := Aside0.mk hy260
   clear hy260
   have H' := Aside0.mk H
   clear H
   go_enter Tryd.func49, Tryd.ntmps49
   go_wp2_with (first | ((with_reducible refine gate_dst (N := 2) rfl ?_); refine box_event ?hg (N := 2) ?hd (cs := #[.int .i64 a0_0, .slice A0_1 l0_1.length c0_1, .slice A0_2 l0_2.length c0_2]) (t := 25) ?hr ?_; (case hd => rfl); (case hg => rfl); (case hr => first | (go_simp; done) | (go_simp; rfl)); intro gb259 hg w5 hbox hb; have BK259 := Aside0.mk (hbox); have GW259 := bsz (w := w) hg; have GE259 := GW259; replace HB := Aside0.mk (below_step bel hb); clear hb hbox hg; have hcz6_0 := blkc BK259.out 0 (.int .i64 a0_0) rfl; have hcz6_1 := blkc BK259.out 1 (.slice A0_1 l0_1.length c0_1) rfl; have hcz6_2 := blkc BK259.out 2 (.slice A0_2 l0_2.length c0_2) rfl) | ((with_reducible refine gate_dst (N := 12) rfl ?_); refine Kd.R_make (Kd.int .i64) _ 3 rfl (N := 12) rfl 28 _ _ rfl a0_0 rfl rfl Tryd.underlying28 (.int .i64 0) 8 info3 rfl (by decide) (by omega) 0 (ok := fun _ => True) (okp := fun _ => True) rfl (fun _ hk => hk) trivial (of_decide_eq_true asz) (Nat.le_trans (Nat.mul_le_mul_right _ (of_decide_eq_true asz : a0_0.toNat ≤ 35184372088832)) (by omega)) (Below.refl _ _) (Nat.le_refl _) ?_; intro v261 w7 ho8 hb hg_ hnew_; clear hg_ hnew_; (first | rw [← Ny260.out] at ho8 | (simp only [Int.reduceToNat] at ho8; rw [← Ny260.out] at ho8)); have HO262 := Aside0.mk (Kd.R_lower ho8 (below_size bel)); replace BK259 := Aside0.mk (blk_below (g := gb259) blkz hb); replace HB := Aside0.mk (below_step bel hb); clear hb ho8))
   go_loopg [6] k (fun kq v6 w' => ∃ (x5_1 : List Int) (x6_1 : Int), v6 = .int .i64 x6_1 ∧ Aside0 (dropperref05_live.l0 kq a1 x5_1 x6_1 a0_0 l0_1 l0_2 = some r) ∧ Aside0 (kq ≤ k) ∧ Aside0 (Kd.R (Kd.int .i64) 3 w' w.heap.size (fun _ => True) v261 x5_1) ∧ Aside0 (w'.heap[gb259]? = some (.cells #[.int .i64 a0_0, (.slice A0_1 l0_1.length c0_1), (.slice A0_2 l0_2.length c0_2)] 25 (0, 0))) ∧ Aside0 (Below w.heap.size w w'))
   case atStart => exact ⟨(y260), (0), rsz, H', ⟨Nat.le_refl _⟩, ⟨by (with_reducible repeat (first | apply Kd.R_alloc | apply Kd.R_drewN | apply Kd.R_drew)); exact HO262.out⟩, ⟨blkz⟩, ⟨bel⟩⟩
   case round =>
    clear H'
    try clear p2
    try clear c3
    try clear c3b0
    try clear c3b1
    try clear c4
    try clear c4b0
    try clear c4b1
    try clear hcz6_0
    try clear hcz6_1
    try clear hcz6_2
    try clear hfz6_0
    try clear hfz6_1
    try clear hfz6_2
    obtain ⟨x5_1, x6_1, rfl, HA, HK1, HO_5, BK259, HB⟩ := hrel
    cases gk with
    | zero => exact absurd HA.out (by simp [dropperref05_live.l0])
    | succ k1 =>
     have H := HA.out
     clear HA
     simp only [dropperref05_live.l0] at H
     by_cases c9 : x6_1 < (l0_2.length : Int)
     ·
      rw [if_pos c9] at H
      have c9b0 : decide (x6_1 < (l0_2.length : Int)) = true := decide_eq_true c9
      clear c9
      by_cases c10 : 0 ≤ x6_1
      ·
       rw [if_pos c10] at H
       have c10b0 : decide (0 ≤ x6_1) = true := decide_eq_true c10
       clear c10
       replace H := Option.bind_eq_some_iff.mp H
       obtain ⟨t264, A110, H⟩ := H
       replace H : (dropperref05_live.l1 k1 a1 x5_1 x6_1 t264 0 a0_0 l0_1 l0_2) = some r := H
       have A11 := Aside0.mk A110
       clear A110
       have H' := Aside0.mk H
       clear H
       have hcz12_0 := blkc BK259.out 0 (.int .i64 a0_0) rfl
       have hcz12_1 := blkc BK259.out 1 (.slice A0_1 l0_1.length c0_1) rfl
       have hcz12_2 := blkc BK259.out 2 (.slice A0_2 l0_2.length c0_2) rfl
       have hfz12_0 := blk_frozen BK259.out 0
       have hfz12_1 := blk_frozen BK259.out 1
       have hfz12_2 := blk_frozen BK259.out 2
       try go_wp2
       have n0_ := Aside0.mk (Kd.R_drew HO_5.out)
       have n1_ := Aside0.mk (blk_drew BK259.out)
       have n2_ := Aside0.mk (below_drew1 HB.out)
       clear HO_5
       clear BK259
       clear HB
       have HO_5 := n0_
       have BK259 := n1_
       have HB := n2_
       clear n0_ n1_ n2_
       have p263 : 0 ≤ (x6_1 : Int) := of_decide_eq_true asz
       have q263 : x6_1 < (l0_2.length : Int) := of_decide_eq_true asz
       obtain ⟨ad263, e263, hx263_0, hx263_1⟩ := at_T71 HR0_2.out x6_1 p263 q263
       have hw263_1 := hx263_1
       have hw263_0 := hx263_0
       cases e263
       replace hx263_0 := (HB.out.cell (World.block_lt_of_cell? w _ hx263_0)).trans hx263_0
       replace hx263_1 := (HB.out.cell (World.block_lt_of_cell? w _ hx263_1)).trans hx263_1
       replace p263 := eq_true p263
       replace q263 := eq_true q263
       refine start_ (n := 10) (S := fun w' => w'.cell? ⟨gb259, 0, none⟩ = some (.int .i64 a0_0) ∧ w'.cell? ⟨gb259, 1, none⟩ = some (.slice A0_1 l0_1.length c0_1) ∧ w'.cell? ⟨gb259, 2, none⟩ = some (.slice (some ad263) l0_2.length c0_2) ∧ w'.cell? (ad263.add ((x6_1).toNat * 2)) = some (.int .i64 ((rd_T71 l0_2 x6_1).f0)) ∧ w'.cell? ⟨(ad263.add ((x6_1).toNat * 2)).block, (ad263.add ((x6_1).toNat * 2)).off + 1, none⟩ = some (.int .i64 ((rd_T71 l0_2 x6_1).f1))) (ds := []) #[false, false, false, false, false, false, false, false, false, false] (by kernel_rfl) rfl rfl ⟨(blk_cell BK259.out 0).trans rfl, (blk_cell BK259.out 1).trans rfl, (blk_cell BK259.out 2).trans rfl, ((HB.out.cell (World.block_lt_of_cell? w _ hw263_0)).trans hw263_0), ((HB.out.cell (World.block_lt_of_cell? w _ hw263_1)).trans hw263_1)⟩ (fun hHeld => ?_); refine with_tabW dropperref05_live.tab5 dropperref05_live.bits5 (fun HT_ HW_ => ?_)
       generalize wr.drew = w13 at HO_5 BK259 HB hx263_0 hx263_1 hHeld ⊢
       refine pst (i := 1) (N := some 21) (bz 10 2) (any_of HT_.out (by kernel_rfl)) ?_
       refine pst (i := 2) (N := some 22) (bz 10 6) (any_of HT_.out (by kernel_rfl)) ?_
       refine pst (i := 4) (N := some 24) (bz 10 22) (any_of HT_.out (by kernel_rfl)) ?_
       refine tst5 (i := 0) (N := some 20) (bz 10 23) (take_ofW HT_.out HW_.out (by kernel_rfl)) hHeld ?_
       refine tst5 (i := 3) (N := some 23) (bz 10 31) (take_ofW HT_.out HW_.out (by kernel_rfl)) hHeld ?_
       refine pst (i := 5) (N := some 25) (bz 10 63) (any_of HT_.out (by kernel_rfl)) ?_
       refine pst (i := 6) (N := some 26) (bz 10 127) (any_of HT_.out (by kernel_rfl)) ?_
       refine tst5 (i := 7) (N := some 27) (bz 10 255) (take_ofW HT_.out HW_.out (by kernel_rfl)) hHeld ?_
       refine one_ (i := 8) (N := some 28) #[true, true, true, true, true, true, true, true, true, false] rfl rfl (one_of HT_.out (by kernel_rfl)) (by decide) (fun K hK => ?_)
       refine goes_ Tryd.func67 (by kernel_rfl) rfl #[.agg #[.int .i64 a0_0, .slice A0_1 l0_1.length c0_1, .slice (some ad263) l0_2.length c0_2], .int .i64 a1, .int .i64 ((rd_T71 l0_2 x6_1).f0)] (by rfl) rfl rfl mapz ?_
       with_reducible refine (dropperref05_from.calls k1 a0_0 _ _ l0_1 _ _ l0_2 a1 ((rd_T71 l0_2 x6_1).f0) t264 _ ?side1 ?side2 ?side3 ?side4 A11.out).mono ?_
       (case side1 => exact cbz HR0_1)
       (case side2 => exact HC0_1.out)
       (case side3 => exact cbz HR0_2)
       (case side4 => exact HC0_2.out)
       rintro e w14 ⟨v265, rfl, ho0, hb⟩
       refine ⟨_, rfl, ?_⟩
       have n0_ := Aside0.mk (Kd.R_below (ownx HO_5) hb)
       have n1_ := Aside0.mk (Kd.R_lower ho0 (below_size bel))
       have n2_ := Aside0.mk (blk_below (g := gb259) blkz hb)
       have n3_ := Aside0.mk (below_step bel hb)
       clear HO_5
       clear BK259
       clear HB
       have HO_5 := n0_
       have HO266 := n1_
       have BK259 := n2_
       have HB := n3_
       clear n0_ n1_ n2_ n3_
       (try clear hb)
       (try clear hb2)
       (try clear hk)
       (try clear hi)
       (try clear ho0)
       refine hK.out _ _ ⟨(blk_cell BK259.out 0).trans rfl, (blk_cell BK259.out 1).trans rfl, (blk_cell BK259.out 2).trans rfl, ((HB.out.cell (World.block_lt_of_cell? w _ hw263_0)).trans hw263_0), ((HB.out.cell (World.block_lt_of_cell? w _ hw263_1)).trans hw263_1)⟩ (fun hHeld => ?_)
       clear hK K
       refine norm_ (a' := ?_) ?_ ?_
       rotate_left
       ·
        show Act.put _ (some 28) _ = _
        simp only [Act.put, List.setIfInBounds_toArray, List.set_cons_zero, List.set_cons_succ, i64_w, i32_w]
        rfl
       refine pst (i := 9) (N := some 7) (bz 10 1023) (any_of HT_.out (by kernel_rfl)) ?_
       refine done_ (done_of HT_.out (by kernel_rfl)) ?_
       try go_wp2
       go_loopg [8] k1 (fun kq v8 w' => ∃ (x5_2 : List Int) (x8_2 : Int), v8 = .int .i64 x8_2 ∧ Aside0 (dropperref05_live.l1 kq a1 x5_2 x6_1 t264 x8_2 a0_0 l0_1 l0_2 = some r) ∧ Aside0 (kq ≤ k1) ∧ Aside0 (Kd.R (Kd.int .i64) 3 w' w.heap.size (fun _ => True) v261 x5_2) ∧ Aside0 (Kd.R Kd.bool 4 w' w.heap.size (fun _ => True) v265 t264) ∧ Aside0 (w'.heap[gb259]? = some (.cells #[.int .i64 a0_0, (.slice A0_1 l0_1.length c0_1), (.slice (some ad263) l0_2.length c0_2)] 25 (0, 0))) ∧ Aside0 (Below w.heap.size w w'))
       case atStart => exact ⟨(x5_1), (0), rsz, H', ⟨Nat.le_refl _⟩, ⟨by (with_reducible repeat (first | apply Kd.R_alloc | apply Kd.R_drewN | apply Kd.R_drew)); exact HO_5.out⟩, ⟨by (with_reducible repeat (first | apply Kd.R_alloc | apply Kd.R_drewN | apply Kd.R_drew)); exact HO266.out⟩, ⟨blkz⟩, ⟨bel⟩⟩
       case round =>
        clear H'
        try clear c1
        try clear p2
        try clear q2
        try clear hx2
        try clear c3
        try clear c3b0
        try clear c3b1
        try clear c4
        try clear c4b0
        try clear c4b1
        try clear c6
        try clear c9
        try clear c9b0
        try clear c10
        try clear c10b0
        try clear hcz12_0
        try clear hcz12_1
        try clear hcz12_2
        try clear hcz6_0
        try clear hcz6_1
        try clear hcz6_2
        try clear hfz12_0
        try clear hfz12_1
        try clear hfz12_2
        try clear hfz6_0
        try clear hfz6_1
        try clear hfz6_2
        try clear hx263_0
        try clear hx263_1
        try clear p2
        try clear p263
        try clear q263
        obtain ⟨x5_2, x8_2, rfl, HA, HK2, HO_5, HO_7, BK259, HB⟩ := hrel
        cases gk with
        | zero => exact absurd HA.out (by simp [dropperref05_live.l1])
        | succ k2 =>
         have H := HA.out
         clear HA
         simp only [dropperref05_live.l1] at H
         by_cases c15 : x8_2 < a0_0
         ·
          rw [if_pos c15] at H
          have c15b0 : decide (x8_2 < a0_0) = true := decide_eq_true c15
          clear c15
          by_cases c16 : 0 ≤ x6_1
          ·
           rw [if_pos c16] at H
           have c16b0 : decide (0 ≤ x6_1) = true := decide_eq_true c16
           clear c16
           by_cases c17 : x6_1 < (l0_2.length : Int)
           ·
            rw [if_pos c17] at H
            have c17b0 : decide (x6_1 < (l0_2.length : Int)) = true := decide_eq_true c17
            clear c17
            by_cases c18 : 0 ≤ x8_2
            ·
             rw [if_pos c18] at H
             have c18b0 : decide (0 ≤ x8_2) = true := decide_eq_true c18
             clear c18
             by_cases c19 : x8_2 < (t264.length : Int)
             ·
              rw [if_pos c19] at H
              have c19b0 : decide (x8_2 < (t264.length : Int)) = true := decide_eq_true c19
              clear c19
              obtain ⟨bq20, hbq20⟩ : ∃ b_ : Bool, b_ = (rdOf false t264 x8_2) := ⟨_, rfl⟩
              replace H : (if bq20 = true then (if x8_2 < (x5_2.length : Int) then (if (rd x5_2 x8_2) = 0 then (dropperref05_live.l1 k2 a1 (x5_2.set (x8_2 : Int).toNat ((rd_T71 l0_2 x6_1).f1)) x6_1 t264 (wrap64 (x8_2 + 1)) a0_0 l0_1 l0_2) else (if (rd x5_2 x8_2) = ((rd_T71 l0_2 x6_1).f1) then (dropperref05_live.l1 k2 a1 x5_2 x6_1 t264 (wrap64 (x8_2 + 1)) a0_0 l0_1 l0_2) else (dropperref05_live.l1 k2 a1 (x5_2.set (x8_2 : Int).toNat (-1)) x6_1 t264 (wrap64 (x8_2 + 1)) a0_0 l0_1 l0_2))) else (none)) else (dropperref05_live.l1 k2 a1 x5_2 x6_1 t264 (wrap64 (x8_2 + 1)) a0_0 l0_1 l0_2)) = some r := by rw [← hbq20] at H; exact H
              have Nbq20 := Aside0.mk hbq20
              clear hbq20
              by_cases c21 : bq20 = true
              ·
               subst c21
               have H1 : (if x8_2 < (x5_2.length : Int) then (if (rd x5_2 x8_2) = 0 then (dropperref05_live.l1 k2 a1 (x5_2.set (x8_2 : Int).toNat ((rd_T71 l0_2 x6_1).f1)) x6_1 t264 (wrap64 (x8_2 + 1)) a0_0 l0_1 l0_2) else (if (rd x5_2 x8_2) = ((rd_T71 l0_2 x6_1).f1) then (dropperref05_live.l1 k2 a1 x5_2 x6_1 t264 (wrap64 (x8_2 + 1)) a0_0 l0_1 l0_2) else (dropperref05_live.l1 k2 a1 (x5_2.set (x8_2 : Int).toNat (-1)) x6_1 t264 (wrap64 (x8_2 + 1)) a0_0 l0_1 l0_2))) else (none)) = some r := by rw [if_pos rfl] at H; exact H
               clear H
               have H := H1
               clear H1
               by_cases c22 : x8_2 < (x5_2.length : Int)
               ·
                rw [if_pos c22] at H
                have c22b0 : decide (x8_2 < (x5_2.length : Int)) = true := decide_eq_true c22
                clear c22
                by_cases c23 : (rd x5_2 x8_2) = 0
                ·
                 rw [if_pos c23] at H
                 have c23b0 : ((rd x5_2 x8_2) == 0) = true := beq_iff_eq.mpr c23
                 have c23b1 : ((rd x5_2 x8_2) != 0) = false := bne_eq_false_iff_eq.mpr c23
                 clear c23
                 obtain ⟨y270, hy270⟩ : ∃ y_ : List Int, y_ = (x5_2.set (x8_2 : Int).toNat ((rd_T71 l0_2 x6_1).f1)) := ⟨_, rfl⟩
                 replace H : (dropperref05_live.l1 k2 a1 y270 x6_1 t264 (wrap64 (x8_2 + 1)) a0_0 l0_1 l0_2) = some r := by first | (rw [hy270]; with_reducible exact H) | (have H2_ := (Option.bind_some _ _).symm.trans H; rw [hy270]; with_reducible exact H2_) | (have H2_ := (Option.bind_some _ _).symm.trans H; with_reducible exact H2_) | with_reducible exact H | (rw [hy270]; exact H) | exact H
                 have Ny270 := Aside0.mk hy270
                 clear hy270
                 have H' := Aside0.mk H
                 clear H
                 have hcz25_0 := blkc BK259.out 0 (.int .i64 a0_0) rfl
                 have hcz25_1 := blkc BK259.out 1 (.slice A0_1 l0_1.length c0_1) rfl
                 have hcz25_2 := blkc BK259.out 2 (.slice (some ad263) l0_2.length c0_2) rfl
                 have hfz25_0 := blk_frozen BK259.out 0
                 have hfz25_1 := blk_frozen BK259.out 1
                 have hfz25_2 := blk_frozen BK259.out 2
                 have p267 : 0 ≤ (x6_1 : Int) := of_decide_eq_true asz
                 have q267 : x6_1 < (l0_2.length : Int) := of_decide_eq_true asz
                 obtain ⟨ad267, e267, hx267_0, hx267_1⟩ := at_T71 HR0_2.out x6_1 p267 q267
                 obtain rfl : ad263 = ad267 := (by injection e267)
                 replace hx267_0 := (HB.out.cell (World.block_lt_of_cell? w _ hx267_0)).trans hx267_0
                 replace hx267_1 := (HB.out.cell (World.block_lt_of_cell? w _ hx267_1)).trans hx267_1
                 replace p267 := eq_true p267
                 replace q267 := eq_true q267
                 obtain ⟨Ao26, co26, eo26⟩ := Kd.R_slice HO_7.out
                 subst eo26
                 have p268 : 0 ≤ (x8_2 : Int) := of_decide_eq_true asz
                 have q268 : x8_2 < (t264.length : Int) := of_decide_eq_true asz
                 obtain ⟨ad268, e268, hx268_0⟩ := Kd.at_bool (Kd.R_reads' HO_7.out).2.2 x8_2 p268 q268
                 (try rw [← Nbq20.out] at hx268_0)
                 cases e268
                 replace p268 := eq_true p268
                 replace q268 := eq_true q268
                 obtain ⟨Ao27, co27, eo27⟩ := Kd.R_slice HO_5.out
                 subst eo27
                 have p269 : 0 ≤ (x8_2 : Int) := of_decide_eq_true asz
                 have q269 : x8_2 < (x5_2.length : Int) := of_decide_eq_true asz
                 obtain ⟨ad269, e269, hx269_0⟩ := Kd.at_int (Kd.R_reads' HO_5.out).2.2 x8_2 p269 q269
                 cases e269
                 replace p269 := eq_true p269
                 replace q269 := eq_true q269
                 have p24 : 0 ≤ (x8_2 : Int) := of_decide_eq_true asz
                 have q24 : (x8_2 : Int) < ((x5_2.length : Int) : Int) := of_decide_eq_true asz
                 obtain ⟨go24, co24, eo24, gb24, gl24, cl24, HG24⟩ := Kd.R_form HO_5.out (by omega)
                 (first | cases eo24 | (injection eo24 with ea_ en_ ec_; (first | subst ea_ | (injection ea_ with ea_; subst ea_)); subst ec_; clear en_))
                 have GB24 := Aside0.mk gb24
                 have GG24 := Aside0.mk HG24
                 clear gb24 gl24 HG24
                 (first | simp only [add_plain] at hx269_0 | skip)
                 obtain ⟨hx24_0, hf24_0⟩ := Kd.R_celln 0 HO_5.out (x8_2 : Int) p24 q24
                 replace p24 := eq_true p24
                 replace q24 := eq_true q24
                 have HP28 := Kd.R_putg HO_5.out (x8_2 : Int) ((rd_T71 l0_2 x6_1).f1)
                 go_wp2_with (first | ((with_reducible refine gate_store (t := 3) (p := 56) rfl ?_); refine store_event (t := 3) (p := 56) (v := ?vo_w29) (w1 := (wr.setCell ⟨go24, (x8_2 : Int).toNat, none⟩ (.int .i64 ((rd_T71 l0_2 x6_1).f1)))) ?hg ?ho ?hn ?hr ?_; (case ho => rfl); (case hg => rfl); (case hn => rfl); (case hr => first | (go_simp; done) | (go_simp; rfl)); intro w29 hw; have hg : wr.grownBy w29 (some go24) := (by rw [hw]; exact HP28.2); have hp_ : Kd.R (Kd.int .i64) 3 w29 w.heap.size (fun _ => True) (.slice (some ⟨go24, 0, none⟩) x5_2.length co27) y270 := (by rw [hw, Ny270.out]; exact HP28.1); clear HP28; replace HO_7 := Aside0.mk (Kd.R_over' (v := (.slice (some ⟨go24, 0, none⟩) x5_2.length co27)) (ownx HO_7) (Kd.R_typed HO_5.out) (by decide) hg); replace BK259 := Aside0.mk (blk_grown (g := gb259) (o := .cells #[.int .i64 a0_0, .slice A0_1 l0_1.length c0_1, .slice (some ad263) l0_2.length c0_2] 25 (0, 0)) blkz hg (Kd.R_ne HO_5.out BK259.out (by decide))); replace HO_5 := Aside0.mk (hp_); replace HB := Aside0.mk ((by rw [hw]; exact below_set (HB.out) GB24.out : Below w.heap.size w w29)); clear hg hw hp_))
                 go_roundg k2
                 case measure => have := HK1.out; have := HK2.out; omega
                 case rel => exact ⟨(y270), (wrap64 (x8_2 + 1)), rsz, H', ⟨by have := HK1.out; have := HK2.out; omega⟩, ⟨by (with_reducible repeat (first | apply Kd.R_alloc | apply Kd.R_drewN | apply Kd.R_drew)); exact HO_5.out⟩, ⟨by (with_reducible repeat (first | apply Kd.R_alloc | apply Kd.R_drewN | apply Kd.R_drew)); exact HO_7.out⟩, ⟨blkz⟩, ⟨bel⟩⟩
                ·
                 rw [if_neg c23] at H
                 have c23b0 : ((rd x5_2 x8_2) == 0) = false := beq_eq_false_iff_ne.mpr c23
                 have c23b1 : ((rd x5_2 x8_2) != 0) = true := bne_iff_ne.mpr c23
                 by_cases c30 : (rd x5_2 x8_2) = ((rd_T71 l0_2 x6_1).f1)
                 ·
                  rw [if_pos c30] at H
                  have c30b0 : ((rd x5_2 x8_2) == ((rd_T71 l0_2 x6_1).f1)) = true := beq_iff_eq.mpr c30
                  have c30b1 : ((rd x5_2 x8_2) != ((rd_T71 l0_2 x6_1).f1)) = false := bne_eq_false_iff_eq.mpr c30
                  clear c30
                  have H' := Aside0.mk H
                  clear H
                  have hcz31_0 := blkc BK259.out 0 (.int .i64 a0_0) rfl
                  have hcz31_1 := blkc BK259.out 1 (.slice A0_1 l0_1.length c0_1) rfl
                  have hcz31_2 := blkc BK259.out 2 (.slice (some ad263) l0_2.length c0_2) rfl
                  have hfz31_0 := blk_frozen BK259.out 0
                  have hfz31_1 := blk_frozen BK259.out 1
                  have hfz31_2 := blk_frozen BK259.out 2
                  have p267 : 0 ≤ (x6_1 : Int) := of_decide_eq_true asz
                  have q267 : x6_1 < (l0_2.length : Int) := of_decide_eq_true asz
                  obtain ⟨ad267, e267, hx267_0, hx267_1⟩ := at_T71 HR0_2.out x6_1 p267 q267
                  obtain rfl : ad263 = ad267 := (by injection e267)
                  replace hx267_0 := (HB.out.cell (World.block_lt_of_cell? w _ hx267_0)).trans hx267_0
                  replace hx267_1 := (HB.out.cell (World.block_lt_of_cell? w _ hx267_1)).trans hx267_1
                  replace p267 := eq_true p267
                  replace q267 := eq_true q267
                  obtain ⟨Ao32, co32, eo32⟩ := Kd.R_slice HO_7.out
                  subst eo32
                  have p268 : 0 ≤ (x8_2 : Int) := of_decide_eq_true asz
                  have q268 : x8_2 < (t264.length : Int) := of_decide_eq_true asz
                  obtain ⟨ad268, e268, hx268_0⟩ := Kd.at_bool (Kd.R_reads' HO_7.out).2.2 x8_2 p268 q268
                  (try rw [← Nbq20.out] at hx268_0)
                  cases e268
                  replace p268 := eq_true p268
                  replace q268 := eq_true q268
                  obtain ⟨Ao33, co33, eo33⟩ := Kd.R_slice HO_5.out
                  subst eo33
                  have p269 : 0 ≤ (x8_2 : Int) := of_decide_eq_true asz
                  have q269 : x8_2 < (x5_2.length : Int) := of_decide_eq_true asz
                  obtain ⟨ad269, e269, hx269_0⟩ := Kd.at_int (Kd.R_reads' HO_5.out).2.2 x8_2 p269 q269
                  cases e269
                  replace p269 := eq_true p269
                  replace q269 := eq_true q269
                  have p271 : 0 ≤ (x8_2 : Int) := of_decide_eq_true asz
                  have q271 : x8_2 < (x5_2.length : Int) := of_decide_eq_true asz
                  obtain ⟨ad271, e271, hx271_0⟩ := Kd.at_int (Kd.R_reads' HO_5.out).2.2 x8_2 p271 q271
                  obtain rfl : ad269 = ad271 := (by injection e271)
                  replace p271 := eq_true p271
                  replace q271 := eq_true q271
                  go_wp2
                  go_roundg k2
                  case measure => have := HK1.out; have := HK2.out; omega
                  case rel => exact ⟨(x5_2), (wrap64 (x8_2 + 1)), rsz, H', ⟨by have := HK1.out; have := HK2.out; omega⟩, ⟨by (with_reducible repeat (first | apply Kd.R_alloc | apply Kd.R_drewN | apply Kd.R_drew)); exact HO_5.out⟩, ⟨by (with_reducible repeat (first | apply Kd.R_alloc | apply Kd.R_drewN | apply Kd.R_drew)); exact HO_7.out⟩, ⟨blkz⟩, ⟨bel⟩⟩
                 ·
                  rw [if_neg c30] at H
                  have c30b0 : ((rd x5_2 x8_2) == ((rd_T71 l0_2 x6_1).f1)) = false := beq_eq_false_iff_ne.mpr c30
                  have c30b1 : ((rd x5_2 x8_2) != ((rd_T71 l0_2 x6_1).f1)) = true := bne_iff_ne.mpr c30
                  obtain ⟨y272, hy272⟩ : ∃ y_ : List Int, y_ = (x5_2.set (x8_2 : Int).toNat (-1)) := ⟨_, rfl⟩
                  replace H : (dropperref05_live.l1 k2 a1 y272 x6_1 t264 (wrap64 (x8_2 + 1)) a0_0 l0_1 l0_2) = some r := by first | (rw [hy272]; with_reducible exact H) | (have H2_ := (Option.bind_some _ _).symm.trans H; rw [hy272]; with_reducible exact H2_) | (have H2_ := (Option.bind_some _ _).symm.trans H; with_reducible exact H2_) | with_reducible exact H | (rw [hy272]; exact H) | exact H
                  have Ny272 := Aside0.mk hy272
                  clear hy272
                  have H' := Aside0.mk H
                  clear H
                  have hcz35_0 := blkc BK259.out 0 (.int .i64 a0_0) rfl
                  have hcz35_1 := blkc BK259.out 1 (.slice A0_1 l0_1.length c0_1) rfl
                  have hcz35_2 := blkc BK259.out 2 (.slice (some ad263) l0_2.length c0_2) rfl
                  have hfz35_0 := blk_frozen BK259.out 0
                  have hfz35_1 := blk_frozen BK259.out 1
                  have hfz35_2 := blk_frozen BK259.out 2
                  have p267 : 0 ≤ (x6_1 : Int) := of_decide_eq_true asz
                  have q267 : x6_1 < (l0_2.length : Int) := of_decide_eq_true asz
                  obtain ⟨ad267, e267, hx267_0, hx267_1⟩ := at_T71 HR0_2.out x6_1 p267 q267
                  obtain rfl : ad263 = ad267 := (by injection e267)
                  replace hx267_0 := (HB.out.cell (World.block_lt_of_cell? w _ hx267_0)).trans hx267_0
                  replace hx267_1 := (HB.out.cell (World.block_lt_of_cell? w _ hx267_1)).trans hx267_1
                  replace p267 := eq_true p267
                  replace q267 := eq_true q267
                  obtain ⟨Ao36, co36, eo36⟩ := Kd.R_slice HO_7.out
                  subst eo36
                  have p268 : 0 ≤ (x8_2 : Int) := of_decide_eq_true asz
                  have q268 : x8_2 < (t264.length : Int) := of_decide_eq_true asz
                  obtain ⟨ad268, e268, hx268_0⟩ := Kd.at_bool (Kd.R_reads' HO_7.out).2.2 x8_2 p268 q268
                  (try rw [← Nbq20.out] at hx268_0)
                  cases e268
                  replace p268 := eq_true p268
                  replace q268 := eq_true q268
                  obtain ⟨Ao37, co37, eo37⟩ := Kd.R_slice HO_5.out
                  subst eo37
                  have p269 : 0 ≤ (x8_2 : Int) := of_decide_eq_true asz
                  have q269 : x8_2 < (x5_2.length : Int) := of_decide_eq_true asz
                  obtain ⟨ad269, e269, hx269_0⟩ := Kd.at_int (Kd.R_reads' HO_5.out).2.2 x8_2 p269 q269
                  cases e269
                  replace p269 := eq_true p269
                  replace q269 := eq_true q269
                  have p271 : 0 ≤ (x8_2 : Int) := of_decide_eq_true asz
                  have q271 : x8_2 < (x5_2.length : Int) := of_decide_eq_true asz
                  obtain ⟨ad271, e271, hx271_0⟩ := Kd.at_int (Kd.R_reads' HO_5.out).2.2 x8_2 p271 q271
                  obtain rfl : ad269 = ad271 := (by injection e271)
                  replace p271 := eq_true p271
                  replace q271 := eq_true q271
                  have p34 : 0 ≤ (x8_2 : Int) := of_decide_eq_true asz
                  have q34 : (x8_2 : Int) < ((x5_2.length : Int) : Int) := of_decide_eq_true asz
                  obtain ⟨go34, co34, eo34, gb34, gl34, cl34, HG34⟩ := Kd.R_form HO_5.out (by omega)
                  (first | cases eo34 | (injection eo34 with ea_ en_ ec_; (first | subst ea_ | (injection ea_ with ea_; subst ea_)); subst ec_; clear en_))
                  have GB34 := Aside0.mk gb34
                  have GG34 := Aside0.mk HG34
                  clear gb34 gl34 HG34
                  (first | simp only [add_plain] at hx269_0 | skip)
                  (first | simp only [add_plain] at hx271_0 | skip)
                  obtain ⟨hx34_0, hf34_0⟩ := Kd.R_celln 0 HO_5.out (x8_2 : Int) p34 q34
                  replace p34 := eq_true p34
                  replace q34 := eq_true q34
                  have HP38 := Kd.R_putg HO_5.out (x8_2 : Int) (-1)
                  go_wp2_with (first | ((with_reducible refine gate_store (t := 3) (p := 66) rfl ?_); refine store_event (t := 3) (p := 66) (v := ?vo_w39) (w1 := (wr.setCell ⟨go34, (x8_2 : Int).toNat, none⟩ (.int .i64 (-1)))) ?hg ?ho ?hn ?hr ?_; (case ho => rfl); (case hg => rfl); (case hn => rfl); (case hr => first | (go_simp; done) | (go_simp; rfl)); intro w39 hw; have hg : wr.grownBy w39 (some go34) := (by rw [hw]; exact HP38.2); have hp_ : Kd.R (Kd.int .i64) 3 w39 w.heap.size (fun _ => True) (.slice (some ⟨go34, 0, none⟩) x5_2.length co37) y272 := (by rw [hw, Ny272.out]; exact HP38.1); clear HP38; replace HO_7 := Aside0.mk (Kd.R_over' (v := (.slice (some ⟨go34, 0, none⟩) x5_2.length co37)) (ownx HO_7) (Kd.R_typed HO_5.out) (by decide) hg); replace BK259 := Aside0.mk (blk_grown (g := gb259) (o := .cells #[.int .i64 a0_0, .slice A0_1 l0_1.length c0_1, .slice (some ad263) l0_2.length c0_2] 25 (0, 0)) blkz hg (Kd.R_ne HO_5.out BK259.out (by decide))); replace HO_5 := Aside0.mk (hp_); replace HB := Aside0.mk ((by rw [hw]; exact below_set (HB.out) GB34.out : Below w.heap.size w w39)); clear hg hw hp_))
                  go_roundg k2
                  case measure => have := HK1.out; have := HK2.out; omega
                  case rel => exact ⟨(y272), (wrap64 (x8_2 + 1)), rsz, H', ⟨by have := HK1.out; have := HK2.out; omega⟩, ⟨by (with_reducible repeat (first | apply Kd.R_alloc | apply Kd.R_drewN | apply Kd.R_drew)); exact HO_5.out⟩, ⟨by (with_reducible repeat (first | apply Kd.R_alloc | apply Kd.R_drewN | apply Kd.R_drew)); exact HO_7.out⟩, ⟨blkz⟩, ⟨bel⟩⟩
               ·
                rw [if_neg c22] at H
                exact absurd H (by simp)
              ·
               replace c21 := Bool.eq_false_iff.mpr c21
               subst c21
               have H1 : (dropperref05_live.l1 k2 a1 x5_2 x6_1 t264 (wrap64 (x8_2 + 1)) a0_0 l0_1 l0_2) = some r := by rw [if_neg (show ¬ (false = true) by decide)] at H; exact H
               clear H
               have H := H1
               clear H1
               have H' := Aside0.mk H
               clear H
               have hcz40_0 := blkc BK259.out 0 (.int .i64 a0_0) rfl
               have hcz40_1 := blkc BK259.out 1 (.slice A0_1 l0_1.length c0_1) rfl
               have hcz40_2 := blkc BK259.out 2 (.slice (some ad263) l0_2.length c0_2) rfl
               have hfz40_0 := blk_frozen BK259.out 0
               have hfz40_1 := blk_frozen BK259.out 1
               have hfz40_2 := blk_frozen BK259.out 2
               have p267 : 0 ≤ (x6_1 : Int) := of_decide_eq_true asz
               have q267 : x6_1 < (l0_2.length : Int) := of_decide_eq_true asz
               obtain ⟨ad267, e267, hx267_0, hx267_1⟩ := at_T71 HR0_2.out x6_1 p267 q267
               obtain rfl : ad263 = ad267 := (by injection e267)
               replace hx267_0 := (HB.out.cell (World.block_lt_of_cell? w _ hx267_0)).trans hx267_0
               replace hx267_1 := (HB.out.cell (World.block_lt_of_cell? w _ hx267_1)).trans hx267_1
               replace p267 := eq_true p267
               replace q267 := eq_true q267
               obtain ⟨Ao41, co41, eo41⟩ := Kd.R_slice HO_7.out
               subst eo41
               have p268 : 0 ≤ (x8_2 : Int) := of_decide_eq_true asz
               have q268 : x8_2 < (t264.length : Int) := of_decide_eq_true asz
               obtain ⟨ad268, e268, hx268_0⟩ := Kd.at_bool (Kd.R_reads' HO_7.out).2.2 x8_2 p268 q268
               (try rw [← Nbq20.out] at hx268_0)
               cases e268
               replace p268 := eq_true p268
               replace q268 := eq_true q268
               go_wp2
               go_roundg k2
               case measure => have := HK1.out; have := HK2.out; omega
               case rel => exact ⟨(x5_2), (wrap64 (x8_2 + 1)), rsz, H', ⟨by have := HK1.out; have := HK2.out; omega⟩, ⟨by (with_reducible repeat (first | apply Kd.R_alloc | apply Kd.R_drewN | apply Kd.R_drew)); exact HO_5.out⟩, ⟨by (with_reducible repeat (first | apply Kd.R_alloc | apply Kd.R_drewN | apply Kd.R_drew)); exact HO_7.out⟩, ⟨blkz⟩, ⟨bel⟩⟩
             ·
              rw [if_neg c19] at H
              exact absurd H (by simp)
            ·
             rw [if_neg c18] at H
             exact absurd H (by simp)
           ·
            rw [if_neg c17] at H
            exact absurd H (by simp)
          ·
           rw [if_neg c16] at H
           exact absurd H (by simp)
         ·
          rw [if_neg c15] at H
          have c15b0 : decide (x8_2 < a0_0) = false := decide_eq_false c15
          clear c15
          have H' := Aside0.mk H
          clear H
          have hcz42_0 := blkc BK259.out 0 (.int .i64 a0_0) rfl
          have hcz42_1 := blkc BK259.out 1 (.slice A0_1 l0_1.length c0_1) rfl
          have hcz42_2 := blkc BK259.out 2 (.slice (some ad263) l0_2.length c0_2) rfl
          have hfz42_0 := blk_frozen BK259.out 0
          have hfz42_1 := blk_frozen BK259.out 1
          have hfz42_2 := blk_frozen BK259.out 2
          go_wp2
          go_roundg k2
          case measure => have := HK1.out; have := HK2.out; omega
          case rel => exact ⟨(x5_2), (wrap64 (x6_1 + 1)), rsz, H', ⟨by have := HK1.out; have := HK2.out; omega⟩, ⟨by (with_reducible repeat (first | apply Kd.R_alloc | apply Kd.R_drewN | apply Kd.R_drew)); exact HO_5.out⟩, ⟨blkz⟩, ⟨bel⟩⟩
      ·
       rw [if_neg c10] at H
       exact absurd H (by simp)
     ·
      rw [if_neg c9] at H
      have c9b0 : decide (x6_1 < (l0_2.length : Int)) = false := decide_eq_false c9
      clear c9
      obtain rfl := Option.some.inj H
      have hcz43_0 := blkc BK259.out 0 (.int .i64 a0_0) rfl
      have hcz43_1 := blkc BK259.out 1 (.slice A0_1 l0_1.length c0_1) rfl
      have hcz43_2 := blkc BK259.out 2 (.slice A0_2 l0_2.length c0_2) rfl
      have hfz43_0 := blk_frozen BK259.out 0
      have hfz43_1 := blk_frozen BK259.out 1
      have hfz43_2 := blk_frozen BK259.out 2
      go_wp2
      go_ret
      exact ⟨_, ezz, by (with_reducible repeat (first | apply Kd.R_alloc | apply Kd.R_drewN | apply Kd.R_drew)); exact HO_5.out, bel⟩
  ·
   rw [if_neg c4] at H
   exact absurd H (by simp)
 ·
  rw [if_neg c3] at H
  exact absurd H (by simp)

/-! ### dropperref05_Fewest: function 27 -/
mutual
def dropperref05_Fewest.l0 : Nat → Int → Int → Int → Int → Int → List (S69) → List (S71) → Option (Int)
 | 0, _, _, _, _, _, _, _ => none
 | k + 1, x1, x2, x7, x8, x380000, x380001, x380002 => if x8 < (shl .i64 1 (x380001.length : Int)) then (if (Go.bits .and .i64 x8 x1) = x8 then ((dropperref05_live.f k x380000 x380001 x380002 (wrap64 (x1 - x8))).bind fun t380 => (if 0 ≤ x2 then (if x2 < (t380.length : Int) then (dropperref05_Fewest.j1 k x1 x2 x7 x8 ((rd t380 x2) != 0) x380000 x380001 x380002) else (none)) else (none))) else (dropperref05_Fewest.j1 k x1 x2 x7 x8 true x380000 x380001 x380002)) else (some x7)
def dropperref05_Fewest.j1 : Nat → Int → Int → Int → Int → Bool → Int → List (S69) → List (S71) → Option (Int)
 | 0, _, _, _, _, _, _, _, _ => none
 | k + 1, x1, x2, x7, x8, x37, x380000, x380001, x380002 => if x37 = true then (dropperref05_Fewest.l0 k x1 x2 x7 (wrap64 (x8 + 1)) x380000 x380001 x380002) else (dropperref05_Fewest.l1 k x1 x2 x7 x8 0 0 x380000 x380001 x380002)
def dropperref05_Fewest.l1 : Nat → Int → Int → Int → Int → Int → Int → Int → List (S69) → List (S71) → Option (Int)
 | 0, _, _, _, _, _, _, _, _, _ => none
 | k + 1, x1, x2, x7, x8, x9, x10, x380000, x380001, x380002 => if x10 < (x380001.length : Int) then ((dropperref05_closed.f x8 x10).bind fun t384 => (if t384 = true then (dropperref05_Fewest.l1 k x1 x2 x7 x8 (wrap64 (x9 + 1)) (wrap64 (x10 + 1)) x380000 x380001 x380002) else (dropperref05_Fewest.l1 k x1 x2 x7 x8 x9 (wrap64 (x10 + 1)) x380000 x380001 x380002))) else (dropperref05_Fewest.l0 k x1 x2 (mn x7 x9) (wrap64 (x8 + 1)) x380000 x380001 x380002)
end
def dropperref05_Fewest.f (k : Nat) (a0_0 : Int) (l0_1 : List (S69)) (l0_2 : List (S71)) (a1 : Int) (a2 : Int) : Option (Int) := dropperref05_Fewest.l0 k a1 a2 (l0_1.length : Int) 0 a0_0 l0_1 l0_2
theorem dropperref05_Fewest.mono_l : ∀ k, (∀ y0 y1 y2 y3 y4 y5 y6, LeO (dropperref05_Fewest.l0 k y0 y1 y2 y3 y4 y5 y6) (dropperref05_Fewest.l0 (k + 1) y0 y1 y2 y3 y4 y5 y6)) ∧ (∀ y0 y1 y2 y3 y4 y5 y6 y7, LeO (dropperref05_Fewest.j1 k y0 y1 y2 y3 y4 y5 y6 y7) (dropperref05_Fewest.j1 (k + 1) y0 y1 y2 y3 y4 y5 y6 y7)) ∧ (∀ y0 y1 y2 y3 y4 y5 y6 y7 y8, LeO (dropperref05_Fewest.l1 k y0 y1 y2 y3 y4 y5 y6 y7 y8) (dropperref05_Fewest.l1 (k + 1) y0 y1 y2 y3 y4 y5 y6 y7 y8))
 | 0 => ⟨fun _ _ _ _ _ _ _ r h => by simp [dropperref05_Fewest.l0] at h, fun _ _ _ _ _ _ _ _ r h => by simp [dropperref05_Fewest.j1] at h, fun _ _ _ _ _ _ _ _ _ r h => by simp [dropperref05_Fewest.l1] at h⟩
 | k + 1 => by
  obtain ⟨ih0, ih1, ih2⟩ := dropperref05_Fewest.mono_l k
  refine ⟨?_, ?_, ?_⟩
  ·
   intro y0 y1 y2 y3 y4 y5 y6
   unfold dropperref05_Fewest.l0
   repeat' first
   | (with_reducible exact ih0 _ _ _ _ _ _ _)
   | (with_reducible exact ih1 _ _ _ _ _ _ _ _)
   | (with_reducible exact ih2 _ _ _ _ _ _ _ _ _)
   | (with_reducible exact dropperref05_live.mono _ _ _ _ _)
   | (with_reducible exact LeO.refl _)
   | (with_reducible exact LeO.none _)
   | (with_reducible refine LeO.ite ?_ ?_)
   | (with_reducible refine LeO.bind ?_ (fun _ => ?_))
   | exact ih0 _ _ _ _ _ _ _
   | exact ih1 _ _ _ _ _ _ _ _
   | exact ih2 _ _ _ _ _ _ _ _ _
   | exact dropperref05_live.mono _ _ _ _ _
   | exact LeO.none _
   | refine LeO.ite ?_ ?_
   | refine LeO.bind ?_ (fun _ => ?_)
  ·
   intro y0 y1 y2 y3 y4 y5 y6 y7
   unfold dropperref05_Fewest.j1
   repeat' first
   | (with_reducible exact ih0 _ _ _ _ _ _ _)
   | (with_reducible exact ih1 _ _ _ _ _ _ _ _)
   | (with_reducible exact ih2 _ _ _ _ _ _ _ _ _)
   | (with_reducible exact dropperref05_live.mono _ _ _ _ _)
   | (with_reducible exact LeO.refl _)
   | (with_reducible exact LeO.none _)
   | (with_reducible refine LeO.ite ?_ ?_)
   | (with_reducible refine LeO.bind ?_ (fun _ => ?_))
   | exact ih0 _ _ _ _ _ _ _
   | exact ih1 _ _ _ _ _ _ _ _
   | exact ih2 _ _ _ _ _ _ _ _ _
   | exact dropperref05_live.mono _ _ _ _ _
   | exact LeO.none _
   | refine LeO.ite ?_ ?_
   | refine LeO.bind ?_ (fun _ => ?_)
  ·
   intro y0 y1 y2 y3 y4 y5 y6 y7 y8
   unfold dropperref05_Fewest.l1
   repeat' first
   | (with_reducible exact ih0 _ _ _ _ _ _ _)
   | (with_reducible exact ih1 _ _ _ _ _ _ _ _)
   | (with_reducible exact ih2 _ _ _ _ _ _ _ _ _)
   | (with_reducible exact dropperref05_live.mono _ _ _ _ _)
   | (with_reducible exact LeO.refl _)
   | (with_reducible exact LeO.none _)
   | (with_reducible refine LeO.ite ?_ ?_)
   | (with_reducible refine LeO.bind ?_ (fun _ => ?_))
   | exact ih0 _ _ _ _ _ _ _
   | exact ih1 _ _ _ _ _ _ _ _
   | exact ih2 _ _ _ _ _ _ _ _ _
   | exact dropperref05_live.mono _ _ _ _ _
   | exact LeO.none _
   | refine LeO.ite ?_ ?_
   | refine LeO.bind ?_ (fun _ => ?_)
theorem dropperref05_Fewest.mono : ∀ a0 a1 a2 a3 a4 k, LeO (dropperref05_Fewest.f k a0 a1 a2 a3 a4) (dropperref05_Fewest.f (k + 1) a0 a1 a2 a3 a4) := by
 intro a0 a1 a2 a3 a4 k
 obtain ⟨ih0, ih1, ih2⟩ := dropperref05_Fewest.mono_l k
 unfold dropperref05_Fewest.f
 repeat' first
   | (with_reducible exact ih0 _ _ _ _ _ _ _)
   | (with_reducible exact ih1 _ _ _ _ _ _ _ _)
   | (with_reducible exact ih2 _ _ _ _ _ _ _ _ _)
   | (with_reducible exact dropperref05_live.mono _ _ _ _ _)
   | (with_reducible exact LeO.refl _)
   | (with_reducible exact LeO.none _)
   | (with_reducible refine LeO.ite ?_ ?_)
   | (with_reducible refine LeO.bind ?_ (fun _ => ?_))
   | exact ih0 _ _ _ _ _ _ _
   | exact ih1 _ _ _ _ _ _ _ _
   | exact ih2 _ _ _ _ _ _ _ _ _
   | exact dropperref05_live.mono _ _ _ _ _
   | exact LeO.none _
   | refine LeO.ite ?_ ?_
   | refine LeO.bind ?_ (fun _ => ?_)
set_option maxHeartbeats 8000000 in
set_option maxRecDepth 100000 in
theorem dropperref05_Fewest.calls (k : Nat) (a0_0 : Int) (A0_1 : Option Addr) (c0_1 : Nat) (l0_1 : List (S69)) (A0_2 : Option Addr) (c0_2 : Nat) (l0_2 : List (S71)) (a1 : Int) (a2 : Int) (r : Int) (w : World) (hr0_1 : Kd.C k69 w A0_1 l0_1.length l0_1) (hc0_1 : l0_1.length ≤ c0_1) (hr0_2 : Kd.C k71 w A0_2 l0_2.length l0_2) (hc0_2 : l0_2.length ≤ c0_2) (h : dropperref05_Fewest.f k a0_0 l0_1 l0_2 a1 a2 = some r) :
  Calls Tryd.prog 27 #[.agg #[.int .i64 a0_0, .slice A0_1 l0_1.length c0_1, .slice A0_2 l0_2.length c0_2], .int .i64 a1, .int .i64 a2] w fun e w' => e = .returned (.int .i64 r) ∧ Below w.heap.size w w' := by
 have hu25 := Tryd.underlying25
 have HR0_1 := Aside0.mk hr0_1
 have HC0_1 := Aside0.mk hc0_1
 clear hr0_1 hc0_1
 have HR0_2 := Aside0.mk hr0_2
 have HC0_2 := Aside0.mk hc0_2
 clear hr0_2 hc0_2
 have HB := Aside0.mk (Below.refl w.heap.size w)
 have H : (dropperref05_Fewest.l0 k a1 a2 (l0_1.length : Int) 0 a0_0 l0_1 l0_2) = some r := h
 clear h
 have H' := Aside0.mk H
 clear H
 go_enter Tryd.func27, Tryd.ntmps27
 go_wp2_with (first | ((with_reducible refine gate_dst (N := 3) rfl ?_); refine box_event ?hg (N := 3) ?hd (cs := #[.int .i64 a0_0, .slice A0_1 l0_1.length c0_1, .slice A0_2 l0_2.length c0_2]) (t := 25) ?hr ?_; (case hd => rfl); (case hg => rfl); (case hr => first | (go_simp; done) | (go_simp; rfl)); intro gb379 hg w4 hbox hb; have BK379 := Aside0.mk (hbox); have GW379 := bsz (w := w) hg; have GE379 := GW379; replace HB := Aside0.mk (below_step bel hb); clear hb hbox hg; have hcz5_0 := blkc BK379.out 0 (.int .i64 a0_0) rfl; have hcz5_1 := blkc BK379.out 1 (.slice A0_1 l0_1.length c0_1) rfl; have hcz5_2 := blkc BK379.out 2 (.slice A0_2 l0_2.length c0_2) rfl))
 go_loopg [7, 8] k (fun kq v7 v8 w' => ∃ (x7_1 : Int) (x8_1 : Int), v7 = .int .i64 x7_1 ∧ v8 = .int .i64 x8_1 ∧ Aside0 (dropperref05_Fewest.l0 kq a1 a2 x7_1 x8_1 a0_0 l0_1 l0_2 = some r) ∧ Aside0 (kq ≤ k) ∧ Aside0 (w'.heap[gb379]? = some (.cells #[.int .i64 a0_0, (.slice A0_1 l0_1.length c0_1), (.slice A0_2 l0_2.length c0_2)] 25 (0, 0))) ∧ Aside0 (Below w.heap.size w w'))
 case atStart => exact ⟨((l0_1.length : Int)), (0), rsz, rsz, H', ⟨Nat.le_refl _⟩, ⟨blkz⟩, ⟨bel⟩⟩
 case round =>
  clear H'
  try clear c2
  try clear p2
  try clear hcz5_0
  try clear hcz5_1
  try clear hcz5_2
  try clear hfz5_0
  try clear hfz5_1
  try clear hfz5_2
  obtain ⟨x7_1, x8_1, rfl, rfl, HA, HK1, BK379, HB⟩ := hrel
  cases gk with
  | zero => exact absurd HA.out (by simp [dropperref05_Fewest.l0])
  | succ k1 =>
   have H := HA.out
   clear HA
   simp only [dropperref05_Fewest.l0] at H
   obtain ⟨ji6, hji6⟩ : ∃ j_ : Int, (shl .i64 1 (l0_1.length : Int)) = j_ := ⟨_, rfl⟩
   replace H : (if x8_1 < (ji6) then (if (Go.bits .and .i64 x8_1 a1) = x8_1 then ((dropperref05_live.f k1 a0_0 l0_1 l0_2 (wrap64 (a1 - x8_1))).bind fun t380 => (if 0 ≤ a2 then (if a2 < (t380.length : Int) then (dropperref05_Fewest.j1 k1 a1 a2 x7_1 x8_1 ((rd t380 a2) != 0) a0_0 l0_1 l0_2) else (none)) else (none))) else (dropperref05_Fewest.j1 k1 a1 a2 x7_1 x8_1 true a0_0 l0_1 l0_2)) else (some x7_1)) = some r := by first | (rw [hji6] at H; exact H) | (simp only [hji6] at H ⊢; exact H)
   have hji6_ : (IntKind.i64.wrap (1 * 2 ^ min (l0_1.length : Int).toNat 64)) = ji6 := hji6
   have hji6z : (l0_1.length : Int) ≤ 64 → (IntKind.i64.wrap (1 * 2 ^ (l0_1.length : Int).toNat)) = ji6 := shl_small hji6
   have hji6p : (IntKind.i64.wrap (1 * 2 ^ min l0_1.length 64)) = ji6 := hji6_
   have hji6q : (l0_1.length : Int) ≤ 64 → (IntKind.i64.wrap (1 * 2 ^ l0_1.length)) = ji6 := hji6z
   have hji6r : (IntKind.i64.wrap (2 ^ min l0_1.length 64)) = ji6 := by have h_ := hji6p; rw [Int.one_mul] at h_; exact h_
   have hji6s : (l0_1.length : Int) ≤ 64 → (IntKind.i64.wrap (2 ^ l0_1.length)) = ji6 := fun hle_ => by have h_ := hji6q hle_; rw [Int.one_mul] at h_; exact h_
   have hji6u : (IntKind.i64.wrap (2 ^ min (l0_1.length : Int).toNat 64)) = ji6 := by have h_ := hji6_; rw [Int.one_mul] at h_; exact h_
   have hji6v : (l0_1.length : Int) ≤ 64 → (IntKind.i64.wrap (2 ^ (l0_1.length : Int).toNat)) = ji6 := fun hle_ => by have h_ := hji6z hle_; rw [Int.one_mul] at h_; exact h_
   have hji6y : (wrap64 (1 * 2 ^ min (l0_1.length : Int).toNat 64)) = ji6 := (i64_w _).symm.trans hji6_
   have hji6x : (l0_1.length : Int) ≤ 64 → (wrap64 (1 * 2 ^ (l0_1.length : Int).toNat)) = ji6 := fun h_ => (i64_w _).symm.trans (hji6z h_)
   by_cases c7 : x8_1 < (ji6)
   ·
    rw [if_pos c7] at H
    have c7b0 : decide (x8_1 < (ji6)) = true := decide_eq_true c7
    clear c7
    have HC8 := Aside0.mk H
    clear H
    have hcz9_0 := blkc BK379.out 0 (.int .i64 a0_0) rfl
    have hcz9_1 := blkc BK379.out 1 (.slice A0_1 l0_1.length c0_1) rfl
    have hcz9_2 := blkc BK379.out 2 (.slice A0_2 l0_2.length c0_2) rfl
    have hfz9_0 := blk_frozen BK379.out 0
    have hfz9_1 := blk_frozen BK379.out 1
    have hfz9_2 := blk_frozen BK379.out 2
    go_upto_region 5 with (fail)
    go_cut [37] (fun v37 wc => ∃ (kq : Nat) (x37_7 : Bool), v37 = .bool x37_7 ∧ Aside0 (dropperref05_Fewest.j1 kq a1 a2 x7_1 x8_1 x37_7 a0_0 l0_1 l0_2 = some r) ∧ Aside0 (kq ≤ k1) ∧ Aside0 (wc.heap[gb379]? = some (.cells #[.int .i64 a0_0, (.slice A0_1 l0_1.length c0_1), (.slice A0_2 l0_2.length c0_2)] 25 (0, 0))) ∧ Aside0 (Below w.heap.size w wc))
    case first =>
     have H := HC8.out
     clear HC8
     by_cases c10 : (Go.bits .and .i64 x8_1 a1) = x8_1
     ·
      rw [if_pos c10] at H
      have c10b0 : ((Go.bits .and .i64 x8_1 a1) == x8_1) = true := beq_iff_eq.mpr c10
      have c10b1 : ((Go.bits .and .i64 x8_1 a1) != x8_1) = false := bne_eq_false_iff_eq.mpr c10
      clear c10
      (first | rw [c10b0] | (simp only [i64_w, i32_w]; rw [c10b0]) | skip)
      replace H := Option.bind_eq_some_iff.mp H
      obtain ⟨t380, A110, H⟩ := H
      replace H : (if 0 ≤ a2 then (if a2 < (t380.length : Int) then (dropperref05_Fewest.j1 k1 a1 a2 x7_1 x8_1 ((rd t380 a2) != 0) a0_0 l0_1 l0_2) else (none)) else (none)) = some r := H
      have A11 := Aside0.mk A110
      clear A110
      by_cases c12 : 0 ≤ a2
      ·
       rw [if_pos c12] at H
       have c12b0 : decide (0 ≤ a2) = true := decide_eq_true c12
       clear c12
       by_cases c13 : a2 < (t380.length : Int)
       ·
        rw [if_pos c13] at H
        have c13b0 : decide (a2 < (t380.length : Int)) = true := decide_eq_true c13
        clear c13
        have H' := Aside0.mk H
        clear H
        have hcz14_0 := blkc BK379.out 0 (.int .i64 a0_0) rfl
        have hcz14_1 := blkc BK379.out 1 (.slice A0_1 l0_1.length c0_1) rfl
        have hcz14_2 := blkc BK379.out 2 (.slice A0_2 l0_2.length c0_2) rfl
        have hfz14_0 := blk_frozen BK379.out 0
        have hfz14_1 := blk_frozen BK379.out 1
        have hfz14_2 := blk_frozen BK379.out 2
        go_wp2_with (first | (go_at_call 49; (with_reducible refine (dropperref05_live.calls k1 a0_0 _ _ l0_1 _ _ l0_2 (wrap64 (a1 - x8_1)) t380 _ ?side1 ?side2 ?side3 ?side4 A11.out).mono ?_); (case side1 => exact cbz HR0_1); (case side2 => exact HC0_1.out); (case side3 => exact cbz HR0_2); (case side4 => exact HC0_2.out); rintro e w15 ⟨v381, rfl, ho0, hb⟩; have HO382 := Aside0.mk (Kd.R_lower ho0 (below_size bel)); replace BK379 := Aside0.mk (blk_below (g := gb379) blkz hb); replace HB := Aside0.mk (below_step bel hb); (try clear hb); (try clear hb2); (try clear hk); (try clear hi); (try clear ho0); obtain ⟨Ao16, co16, eo16⟩ := Kd.R_slice HO382.out; subst eo16; have p383 : 0 ≤ (a2 : Int) := of_decide_eq_true asz; have q383 : a2 < (t380.length : Int) := of_decide_eq_true asz; obtain ⟨ad383, e383, hx383_0⟩ := Kd.at_int (Kd.R_reads' HO382.out).2.2 a2 p383 q383; cases e383; replace p383 := eq_true p383; replace q383 := eq_true q383))
        go_meet
        case rel => exact ⟨_, (((rd t380 a2) != 0)), rsz, H', ⟨by have := HK1.out; first | omega | exact Nat.le_refl _⟩, ⟨blkz⟩, ⟨bel⟩⟩
       ·
        rw [if_neg c13] at H
        exact absurd H (by simp)
      ·
       rw [if_neg c12] at H
       exact absurd H (by simp)
     ·
      rw [if_neg c10] at H
      have c10b0 : ((Go.bits .and .i64 x8_1 a1) == x8_1) = false := beq_eq_false_iff_ne.mpr c10
      have c10b1 : ((Go.bits .and .i64 x8_1 a1) != x8_1) = true := bne_iff_ne.mpr c10
      (first | rw [c10b0] | (simp only [i64_w, i32_w]; rw [c10b0]) | skip)
      have H' := Aside0.mk H
      clear H
      go_wp2
      go_meet
      case rel => exact ⟨_, (true), rsz, H', ⟨by have := HK1.out; first | omega | exact Nat.le_refl _⟩, ⟨blkz⟩, ⟨bel⟩⟩
    case rest =>
     clear HC8
     try clear c1
     try clear c2
     try clear p2
     try clear p3
     try clear q3
     try clear hx3
     try clear p6
     try clear c7
     try clear c7b0
     try clear c10
     try clear c10b0
     try clear c10b1
     try clear c12
     try clear c12b0
     try clear c13
     try clear c13b0
     try clear hcz14_0
     try clear hcz14_1
     try clear hcz14_2
     try clear hcz5_0
     try clear hcz5_1
     try clear hcz5_2
     try clear hcz9_0
     try clear hcz9_1
     try clear hcz9_2
     try clear hfz14_0
     try clear hfz14_1
     try clear hfz14_2
     try clear hfz5_0
     try clear hfz5_1
     try clear hfz5_2
     try clear hfz9_0
     try clear hfz9_1
     try clear hfz9_2
     try clear hx383_0
     try clear p2
     try clear p383
     try clear q383
     obtain ⟨kq, x37_7, rfl, HA, HJ7, BK379, HB⟩ := hcut
     cases kq with
     | zero => exact absurd HA.out (by simp [dropperref05_Fewest.j1])
     | succ kj7 =>
      have H := HA.out
      clear HA
      simp only [dropperref05_Fewest.j1] at H
      by_cases c17 : x37_7 = true
      ·
       subst c17
       have H1 : (dropperref05_Fewest.l0 kj7 a1 a2 x7_1 (wrap64 (x8_1 + 1)) a0_0 l0_1 l0_2) = some r := by rw [if_pos rfl] at H; exact H
       clear H
       have H := H1
       clear H1
       have H' := Aside0.mk H
       clear H
       go_wp2
       go_roundg kj7
       case measure => have := HK1.out; have := HJ7.out; omega
       case rel => exact ⟨(x7_1), (wrap64 (x8_1 + 1)), rsz, rsz, H', ⟨by have := HK1.out; have := HJ7.out; omega⟩, ⟨blkz⟩, ⟨bel⟩⟩
      ·
       replace c17 := Bool.eq_false_iff.mpr c17
       subst c17
       have H1 : (dropperref05_Fewest.l1 kj7 a1 a2 x7_1 x8_1 0 0 a0_0 l0_1 l0_2) = some r := by rw [if_neg (show ¬ (false = true) by decide)] at H; exact H
       clear H
       have H := H1
       clear H1
       have H' := Aside0.mk H
       clear H
       go_wp2
       go_loopg [9, 10] kj7 (fun kq v9 v10 w' => ∃ (x9_3 : Int) (x10_3 : Int), v9 = .int .i64 x9_3 ∧ v10 = .int .i64 x10_3 ∧ Aside0 (dropperref05_Fewest.l1 kq a1 a2 x7_1 x8_1 x9_3 x10_3 a0_0 l0_1 l0_2 = some r) ∧ Aside0 (kq ≤ kj7) ∧ Aside0 (w'.heap[gb379]? = some (.cells #[.int .i64 a0_0, (.slice A0_1 l0_1.length c0_1), (.slice A0_2 l0_2.length c0_2)] 25 (0, 0))) ∧ Aside0 (Below w.heap.size w w'))
       case atStart => exact ⟨(0), (0), rsz, rsz, H', ⟨Nat.le_refl _⟩, ⟨blkz⟩, ⟨bel⟩⟩
       case round =>
        clear H'
        try clear c1
        try clear c2
        try clear p2
        try clear p3
        try clear q3
        try clear hx3
        try clear p6
        try clear c7
        try clear c7b0
        try clear c10
        try clear c10b0
        try clear c10b1
        try clear c12
        try clear c12b0
        try clear c13
        try clear c13b0
        try clear c17
        try clear hcz14_0
        try clear hcz14_1
        try clear hcz14_2
        try clear hcz5_0
        try clear hcz5_1
        try clear hcz5_2
        try clear hcz9_0
        try clear hcz9_1
        try clear hcz9_2
        try clear hfz14_0
        try clear hfz14_1
        try clear hfz14_2
        try clear hfz5_0
        try clear hfz5_1
        try clear hfz5_2
        try clear hfz9_0
        try clear hfz9_1
        try clear hfz9_2
        try clear hx383_0
        try clear p2
        try clear p3
        try clear p383
        try clear p6
        try clear q3
        try clear q383
        obtain ⟨x9_3, x10_3, rfl, rfl, HA, HK3, BK379, HB⟩ := hrel
        cases gk with
        | zero => exact absurd HA.out (by simp [dropperref05_Fewest.l1])
        | succ k3 =>
         have H := HA.out
         clear HA
         simp only [dropperref05_Fewest.l1] at H
         by_cases c18 : x10_3 < (l0_1.length : Int)
         ·
          rw [if_pos c18] at H
          have c18b0 : decide (x10_3 < (l0_1.length : Int)) = true := decide_eq_true c18
          clear c18
          replace H := Option.bind_eq_some_iff.mp H
          obtain ⟨t384, A190, H⟩ := H
          replace H : (if t384 = true then (dropperref05_Fewest.l1 k3 a1 a2 x7_1 x8_1 (wrap64 (x9_3 + 1)) (wrap64 (x10_3 + 1)) a0_0 l0_1 l0_2) else (dropperref05_Fewest.l1 k3 a1 a2 x7_1 x8_1 x9_3 (wrap64 (x10_3 + 1)) a0_0 l0_1 l0_2)) = some r := H
          have A19 := Aside0.mk A190
          clear A190
          by_cases c20 : t384 = true
          ·
           subst c20
           have H1 : (dropperref05_Fewest.l1 k3 a1 a2 x7_1 x8_1 (wrap64 (x9_3 + 1)) (wrap64 (x10_3 + 1)) a0_0 l0_1 l0_2) = some r := by rw [if_pos rfl] at H; exact H
           clear H
           have H := H1
           clear H1
           have H' := Aside0.mk H
           clear H
           have hcz21_0 := blkc BK379.out 0 (.int .i64 a0_0) rfl
           have hcz21_1 := blkc BK379.out 1 (.slice A0_1 l0_1.length c0_1) rfl
           have hcz21_2 := blkc BK379.out 2 (.slice A0_2 l0_2.length c0_2) rfl
           have hfz21_0 := blk_frozen BK379.out 0
           have hfz21_1 := blk_frozen BK379.out 1
           have hfz21_2 := blk_frozen BK379.out 2
           go_wp2_with (first | ((with_reducible refine gate_callee (f := 61) rfl ?_); refine goesL_ (some 47) rfl rfl Tryd.func61 (by kernel_rfl) rfl #[.int .i64 x8_1, .int .i64 x10_3] rfl mapz ?_; (with_reducible refine (dropperref05_closed.calls x8_1 x10_3 true _ A19.out).mono ?_); rintro e w' ⟨rfl, ⟨nd, rfl⟩⟩; refine ⟨_, rfl, ?_⟩))
           go_roundg k3
           case measure => have := HK1.out; have := HJ7.out; have := HK3.out; omega
           case rel => exact ⟨(wrap64 (x9_3 + 1)), (wrap64 (x10_3 + 1)), rsz, rsz, H', ⟨by have := HK1.out; have := HJ7.out; have := HK3.out; omega⟩, ⟨blkz⟩, ⟨bel⟩⟩
          ·
           replace c20 := Bool.eq_false_iff.mpr c20
           subst c20
           have H1 : (dropperref05_Fewest.l1 k3 a1 a2 x7_1 x8_1 x9_3 (wrap64 (x10_3 + 1)) a0_0 l0_1 l0_2) = some r := by rw [if_neg (show ¬ (false = true) by decide)] at H; exact H
           clear H
           have H := H1
           clear H1
           have H' := Aside0.mk H
           clear H
           have hcz22_0 := blkc BK379.out 0 (.int .i64 a0_0) rfl
           have hcz22_1 := blkc BK379.out 1 (.slice A0_1 l0_1.length c0_1) rfl
           have hcz22_2 := blkc BK379.out 2 (.slice A0_2 l0_2.length c0_2) rfl
           have hfz22_0 := blk_frozen BK379.out 0
           have hfz22_1 := blk_frozen BK379.out 1
           have hfz22_2 := blk_frozen BK379.out 2
           go_wp2_with (first | ((with_reducible refine gate_callee (f := 61) rfl ?_); refine goesL_ (some 47) rfl rfl Tryd.func61 (by kernel_rfl) rfl #[.int .i64 x8_1, .int .i64 x10_3] rfl mapz ?_; (with_reducible refine (dropperref05_closed.calls x8_1 x10_3 false _ A19.out).mono ?_); rintro e w' ⟨rfl, ⟨nd, rfl⟩⟩; refine ⟨_, rfl, ?_⟩))
           go_roundg k3
           case measure => have := HK1.out; have := HJ7.out; have := HK3.out; omega
           case rel => exact ⟨(x9_3), (wrap64 (x10_3 + 1)), rsz, rsz, H', ⟨by have := HK1.out; have := HJ7.out; have := HK3.out; omega⟩, ⟨blkz⟩, ⟨bel⟩⟩
         ·
          rw [if_neg c18] at H
          have c18b0 : decide (x10_3 < (l0_1.length : Int)) = false := decide_eq_false c18
          clear c18
          obtain ⟨ji23, hji23⟩ : ∃ j_ : Int, (mn x7_1 x9_3) = j_ := ⟨_, rfl⟩
          replace H : (dropperref05_Fewest.l0 k3 a1 a2 ji23 (wrap64 (x8_1 + 1)) a0_0 l0_1 l0_2) = some r := by first | (rw [hji23] at H; exact H) | (simp only [hji23] at H ⊢; exact H)
          have hji23_ : (if x9_3 < x7_1 then x9_3 else x7_1) = ji23 := hji23
          have H' := Aside0.mk H
          clear H
          have hcz24_0 := blkc BK379.out 0 (.int .i64 a0_0) rfl
          have hcz24_1 := blkc BK379.out 1 (.slice A0_1 l0_1.length c0_1) rfl
          have hcz24_2 := blkc BK379.out 2 (.slice A0_2 l0_2.length c0_2) rfl
          have hfz24_0 := blk_frozen BK379.out 0
          have hfz24_1 := blk_frozen BK379.out 1
          have hfz24_2 := blk_frozen BK379.out 2
          go_wp2
          go_roundg k3
          case measure => have := HK1.out; have := HJ7.out; have := HK3.out; omega
          case rel => exact ⟨(ji23), (wrap64 (x8_1 + 1)), (by first | rfl | (simp; done) | (simp only [← hji23] <;> (first | rfl | simp)) | (simp [*]; done)), rsz, H', ⟨by have := HK1.out; have := HJ7.out; have := HK3.out; omega⟩, ⟨blkz⟩, ⟨bel⟩⟩
   ·
    rw [if_neg c7] at H
    have c7b0 : decide (x8_1 < (ji6)) = false := decide_eq_false c7
    clear c7
    obtain rfl := Option.some.inj H
    have hcz25_0 := blkc BK379.out 0 (.int .i64 a0_0) rfl
    have hcz25_1 := blkc BK379.out 1 (.slice A0_1 l0_1.length c0_1) rfl
    have hcz25_2 := blkc BK379.out 2 (.slice A0_2 l0_2.length c0_2) rfl
    have hfz25_0 := blk_frozen BK379.out 0
    have hfz25_1 := blk_frozen BK379.out 1
    have hfz25_2 := blk_frozen BK379.out 2
    go_wp2
    go_ret
    exact ⟨by first | rfl | (simp [errW_none, errW_some] <;> rfl) | (simp only [← hji6]; first | rfl | (simp [errW_none, errW_some] <;> rfl)) | (simp [*, errW_none, errW_some] <;> rfl), bel⟩

/-! ### dropperlaw05_many: function 38 -/
def dropperlaw05_many.l0 : Nat → List (List Int) → Int → Option (Bool)
 | 0, _, _ => none
 | k + 1, x0, x3 => if x3 < (x0.length : Int) then (if 0 ≤ x3 then (if ((rd_L4 x0 x3).length : Int) > 30 then (some true) else (dropperlaw05_many.l0 k x0 (wrap64 (x3 + 1)))) else (none)) else (some false)
def dropperlaw05_many.f (k : Nat) (l0 : List (List Int)) : Option (Bool) := if (l0.length : Int) > 25 then (some true) else (dropperlaw05_many.l0 k l0 0)
theorem dropperlaw05_many.mono_l : ∀ k, (∀ y0 y1, LeO (dropperlaw05_many.l0 k y0 y1) (dropperlaw05_many.l0 (k + 1) y0 y1))
 | 0 => fun _ _ r h => by simp [dropperlaw05_many.l0] at h
 | k + 1 => by
  have ih0 := dropperlaw05_many.mono_l k
  ·
   intro y0 y1
   unfold dropperlaw05_many.l0
   repeat' first
   | (with_reducible exact ih0 _ _)
   | (with_reducible exact LeO.refl _)
   | (with_reducible exact LeO.none _)
   | (with_reducible refine LeO.ite ?_ ?_)
   | (with_reducible refine LeO.bind ?_ (fun _ => ?_))
   | exact ih0 _ _
   | exact LeO.none _
   | refine LeO.ite ?_ ?_
   | refine LeO.bind ?_ (fun _ => ?_)
theorem dropperlaw05_many.mono : ∀ a0 k, LeO (dropperlaw05_many.f k a0) (dropperlaw05_many.f (k + 1) a0) := by
 intro a0 k
 have ih0 := dropperlaw05_many.mono_l k
 unfold dropperlaw05_many.f
 repeat' first
   | (with_reducible exact ih0 _ _)
   | (with_reducible exact LeO.refl _)
   | (with_reducible exact LeO.none _)
   | (with_reducible refine LeO.ite ?_ ?_)
   | (with_reducible refine LeO.bind ?_ (fun _ => ?_))
   | exact ih0 _ _
   | exact LeO.none _
   | refine LeO.ite ?_ ?_
   | refine LeO.bind ?_ (fun _ => ?_)
set_option maxHeartbeats 8000000 in
set_option maxRecDepth 100000 in
theorem dropperlaw05_many.calls (k : Nat) (A0 : Option Addr) (c0 : Nat) (l0 : List (List Int)) (r : Bool) (w : World) (hr0 : Kd.C (Kd.slice 3 (Kd.int .i64)) w A0 l0.length l0) (hc0 : l0.length ≤ c0) (h : dropperlaw05_many.f k l0 = some r) :
  Calls Tryd.prog 38 #[.slice A0 l0.length c0] w fun e w' => e = .returned (.bool r) ∧ Drawn0 w w' := by
 have HR0 := Aside0.mk hr0
 have HC0 := Aside0.mk hc0
 clear hr0 hc0
 have H : (if (l0.length : Int) > 25 then (some true) else (dropperlaw05_many.l0 k l0 0)) = some r := h
 clear h
 by_cases c2 : (l0.length : Int) > 25
 ·
  rw [if_pos c2] at H
  have c2b0 : decide (25 < (l0.length : Int)) = true := decide_eq_true c2
  have c2b1 : decide (25 < l0.length) = true := decide_eq_true (by omega)
  clear c2
  obtain rfl := Option.some.inj H
  go_enter Tryd.func38, Tryd.ntmps38
  go_wp2
  go_ret
  exact ⟨by first | rfl | (simp; done) | (simp [*]; done), drz⟩
 ·
  rw [if_neg c2] at H
  have c2b0 : decide (25 < (l0.length : Int)) = false := decide_eq_false c2
  have c2b1 : decide (25 < l0.length) = false := decide_eq_false (by omega)
  clear c2
  have H' := Aside0.mk H
  clear H
  go_enter Tryd.func38, Tryd.ntmps38
  go_wp2
  go_loopg [3] k (fun kq v3 w' => ∃ (x3_1 : Int), v3 = .int .i64 x3_1 ∧ Aside0 (dropperlaw05_many.l0 kq l0 x3_1 = some r) ∧ Aside0 (kq ≤ k) ∧ Drawn0 w w')
  case atStart => exact ⟨(0), rsz, H', ⟨Nat.le_refl _⟩, drz⟩
  case round =>
   clear H'
   try clear c2
   try clear c2b0
   try clear c2b1
   try clear p2
   obtain ⟨x3_1, rfl, HA, HK1, ⟨m1, rfl⟩⟩ := hrel
   cases gk with
   | zero => exact absurd HA.out (by simp [dropperlaw05_many.l0])
   | succ k1 =>
    have H := HA.out
    clear HA
    simp only [dropperlaw05_many.l0] at H
    by_cases c3 : x3_1 < (l0.length : Int)
    ·
     rw [if_pos c3] at H
     have c3b0 : decide (x3_1 < (l0.length : Int)) = true := decide_eq_true c3
     clear c3
     by_cases c4 : 0 ≤ x3_1
     ·
      rw [if_pos c4] at H
      have c4b0 : decide (0 ≤ x3_1) = true := decide_eq_true c4
      clear c4
      by_cases c5 : ((rd_L4 l0 x3_1).length : Int) > 30
      ·
       rw [if_pos c5] at H
       have c5b0 : decide (30 < ((rd_L4 l0 x3_1).length : Int)) = true := decide_eq_true c5
       have c5b1 : decide (30 < (rd_L4 l0 x3_1).length) = true := decide_eq_true (by omega)
       clear c5
       obtain rfl := Option.some.inj H
       have p623 : 0 ≤ (x3_1 : Int) := of_decide_eq_true asz
       have q623 : x3_1 < (l0.length : Int) := of_decide_eq_true asz
       obtain ⟨ad623, A623_0, c623_0, e623, hx623_0, hl623_0, hi623_0⟩ := at_L4 HR0.out x3_1 p623 q623
       cases e623
       have HR623_0 := Aside0.mk hi623_0
       have HC623_0 := Aside0.mk hl623_0
       clear hi623_0 hl623_0
       replace p623 := eq_true p623
       replace q623 := eq_true q623
       go_wp2
       go_ret
       exact ⟨by first | rfl | (simp; done) | (simp [*]; done), drz⟩
      ·
       rw [if_neg c5] at H
       have c5b0 : decide (30 < ((rd_L4 l0 x3_1).length : Int)) = false := decide_eq_false c5
       have c5b1 : decide (30 < (rd_L4 l0 x3_1).length) = false := decide_eq_false (by omega)
       clear c5
       have H' := Aside0.mk H
       clear H
       have p623 : 0 ≤ (x3_1 : Int) := of_decide_eq_true asz
       have q623 : x3_1 < (l0.length : Int) := of_decide_eq_true asz
       obtain ⟨ad623, A623_0, c623_0, e623, hx623_0, hl623_0, hi623_0⟩ := at_L4 HR0.out x3_1 p623 q623
       cases e623
       have HR623_0 := Aside0.mk hi623_0
       have HC623_0 := Aside0.mk hl623_0
       clear hi623_0 hl623_0
       replace p623 := eq_true p623
       replace q623 := eq_true q623
       go_wp2
       go_roundg k1
       case measure => have := HK1.out; omega
       case rel => exact ⟨(wrap64 (x3_1 + 1)), rsz, H', ⟨by have := HK1.out; omega⟩, drz⟩
     ·
      rw [if_neg c4] at H
      exact absurd H (by simp)
    ·
     rw [if_neg c3] at H
     have c3b0 : decide (x3_1 < (l0.length : Int)) = false := decide_eq_false c3
     clear c3
     obtain rfl := Option.some.inj H
     go_wp2
     go_ret
     exact ⟨by first | rfl | (simp; done) | (simp [*]; done), drz⟩

/-! ### feed_grid_end: function 100 -/
mutual
def feed_grid_end.l0 : Nat → Int → Int → Int → List Int → Int → Int → Int → List (S69) → List (S71) → Option (Int × Bool)
 | 0, _, _, _, _, _, _, _, _, _ => none
 | k + 1, x1, x2, x10, x16, x17, x18, x625000, x625001, x625002 => if x18 < x17 then (if 0 ≤ x18 then (if x18 < (x16.length : Int) then ((feed_within.f 0 (rd x16 x18) (wrap64 ((x625001.length : Int) - 1))).bind fun t626 => (if t626 = true then (if 0 ≤ (rd x16 x18) then (feed_grid_end.j1 k x1 x2 x10 (rd x16 x18) x16 x17 x18 ((Go.bits .and .i64 (shr .i64 x1 (rd x16 x18)) 1) == 0) x625000 x625001 x625002) else (none)) else (feed_grid_end.j1 k x1 x2 x10 (rd x16 x18) x16 x17 x18 true x625000 x625001 x625002))) else (none)) else (none)) else (some (x2, true))
def feed_grid_end.j1 : Nat → Int → Int → Int → Int → List Int → Int → Int → Bool → Int → List (S69) → List (S71) → Option (Int × Bool)
 | 0, _, _, _, _, _, _, _, _, _, _, _ => none
 | k + 1, x1, x2, x10, x12, x16, x17, x18, x36, x625000, x625001, x625002 => if x36 = true then (some (0, false)) else (if 0 ≤ x12 then (if x12 < (x625001.length : Int) then (if x2 = ((rd_T69 x625001 x12).f0) then (if 0 ≤ ((rd_T69 x625001 x12).f1) then (if (Go.bits .and .u64 (shr .u64 x10 ((rd_T69 x625001 x12).f1)) 1) = 1 then (some (0, false)) else (feed_grid_end.l0 k x1 ((rd_T69 x625001 x12).f1) (Go.bits .or .u64 x10 (shl .u64 1 ((rd_T69 x625001 x12).f1))) x16 x17 (wrap64 (x18 + 1)) x625000 x625001 x625002)) else (none)) else (if x2 = ((rd_T69 x625001 x12).f1) then (if 0 ≤ ((rd_T69 x625001 x12).f0) then (if (Go.bits .and .u64 (shr .u64 x10 ((rd_T69 x625001 x12).f0)) 1) = 1 then (some (0, false)) else (feed_grid_end.l0 k x1 ((rd_T69 x625001 x12).f0) (Go.bits .or .u64 x10 (shl .u64 1 ((rd_T69 x625001 x12).f0))) x16 x17 (wrap64 (x18 + 1)) x625000 x625001 x625002)) else (none)) else (some (0, false)))) else (none)) else (none))
end
def feed_grid_end.f (k : Nat) (a0_0 : Int) (l0_1 : List (S69)) (l0_2 : List (S71)) (a1 : Int) (a2 : Int) (l3 : List Int) : Option (Int × Bool) := if 0 ≤ a2 then (feed_grid_end.l0 k a1 a2 (shl .u64 1 a2) l3 (l3.length : Int) 0 a0_0 l0_1 l0_2) else (none)
theorem feed_grid_end.mono_l : ∀ k, (∀ y0 y1 y2 y3 y4 y5 y6 y7 y8, LeO (feed_grid_end.l0 k y0 y1 y2 y3 y4 y5 y6 y7 y8) (feed_grid_end.l0 (k + 1) y0 y1 y2 y3 y4 y5 y6 y7 y8)) ∧ (∀ y0 y1 y2 y3 y4 y5 y6 y7 y8 y9 y10, LeO (feed_grid_end.j1 k y0 y1 y2 y3 y4 y5 y6 y7 y8 y9 y10) (feed_grid_end.j1 (k + 1) y0 y1 y2 y3 y4 y5 y6 y7 y8 y9 y10))
 | 0 => ⟨fun _ _ _ _ _ _ _ _ _ r h => by simp [feed_grid_end.l0] at h, fun _ _ _ _ _ _ _ _ _ _ _ r h => by simp [feed_grid_end.j1] at h⟩
 | k + 1 => by
  obtain ⟨ih0, ih1⟩ := feed_grid_end.mono_l k
  refine ⟨?_, ?_⟩
  ·
   intro y0 y1 y2 y3 y4 y5 y6 y7 y8
   unfold feed_grid_end.l0
   repeat' first
   | (with_reducible exact ih0 _ _ _ _ _ _ _ _ _)
   | (with_reducible exact ih1 _ _ _ _ _ _ _ _ _ _ _)
   | (with_reducible exact LeO.refl _)
   | (with_reducible exact LeO.none _)
   | (with_reducible refine LeO.ite ?_ ?_)
   | (with_reducible refine LeO.bind ?_ (fun _ => ?_))
   | exact ih0 _ _ _ _ _ _ _ _ _
   | exact ih1 _ _ _ _ _ _ _ _ _ _ _
   | exact LeO.none _
   | refine LeO.ite ?_ ?_
   | refine LeO.bind ?_ (fun _ => ?_)
  ·
   intro y0 y1 y2 y3 y4 y5 y6 y7 y8 y9 y10
   unfold feed_grid_end.j1
   repeat' first
   | (with_reducible exact ih0 _ _ _ _ _ _ _ _ _)
   | (with_reducible exact ih1 _ _ _ _ _ _ _ _ _ _ _)
   | (with_reducible exact LeO.refl _)
   | (with_reducible exact LeO.none _)
   | (with_reducible refine LeO.ite ?_ ?_)
   | (with_reducible refine LeO.bind ?_ (fun _ => ?_))
   | exact ih0 _ _ _ _ _ _ _ _ _
   | exact ih1 _ _ _ _ _ _ _ _ _ _ _
   | exact LeO.none _
   | refine LeO.ite ?_ ?_
   | refine LeO.bind ?_ (fun _ => ?_)
theorem feed_grid_end.mono : ∀ a0 a1 a2 a3 a4 a5 k, LeO (feed_grid_end.f k a0 a1 a2 a3 a4 a5) (feed_grid_end.f (k + 1) a0 a1 a2 a3 a4 a5) := by
 intro a0 a1 a2 a3 a4 a5 k
 obtain ⟨ih0, ih1⟩ := feed_grid_end.mono_l k
 unfold feed_grid_end.f
 repeat' first
   | (with_reducible exact ih0 _ _ _ _ _ _ _ _ _)
   | (with_reducible exact ih1 _ _ _ _ _ _ _ _ _ _ _)
   | (with_reducible exact LeO.refl _)
   | (with_reducible exact LeO.none _)
   | (with_reducible refine LeO.ite ?_ ?_)
   | (with_reducible refine LeO.bind ?_ (fun _ => ?_))
   | exact ih0 _ _ _ _ _ _ _ _ _
   | exact ih1 _ _ _ _ _ _ _ _ _ _ _
   | exact LeO.none _
   | refine LeO.ite ?_ ?_
   | refine LeO.bind ?_ (fun _ => ?_)
set_option maxHeartbeats 8000000 in
set_option maxRecDepth 100000 in
theorem feed_grid_end.calls (k : Nat) (a0_0 : Int) (A0_1 : Option Addr) (c0_1 : Nat) (l0_1 : List (S69)) (A0_2 : Option Addr) (c0_2 : Nat) (l0_2 : List (S71)) (a1 : Int) (a2 : Int) (A3 : Option Addr) (c3 : Nat) (l3 : List Int) (r1 : Int) (r2 : Bool) (w : World) (hr0_1 : Kd.C k69 w A0_1 l0_1.length l0_1) (hc0_1 : l0_1.length ≤ c0_1) (hr0_2 : Kd.C k71 w A0_2 l0_2.length l0_2) (hc0_2 : l0_2.length ≤ c0_2) (hr3 : Kd.C (Kd.int .i64) w A3 l3.length l3) (hc3 : l3.length ≤ c3) (h : feed_grid_end.f k a0_0 l0_1 l0_2 a1 a2 l3 = some (r1, r2)) :
  Calls Tryd.prog 100 #[.agg #[.int .i64 a0_0, .slice A0_1 l0_1.length c0_1, .slice A0_2 l0_2.length c0_2], .int .i64 a1, .int .i64 a2, .slice A3 l3.length c3] w fun e w' => e = .returned (.tuple #[.int .i64 r1, .bool r2]) ∧ Below w.heap.size w w' := by
 have hu73 := Tryd.underlying73
 have hu69 := Tryd.underlying69
 have HR0_1 := Aside0.mk hr0_1
 have HC0_1 := Aside0.mk hc0_1
 clear hr0_1 hc0_1
 have HR0_2 := Aside0.mk hr0_2
 have HC0_2 := Aside0.mk hc0_2
 clear hr0_2 hc0_2
 have HR3 := Aside0.mk hr3
 have HC3 := Aside0.mk hc3
 clear hr3 hc3
 have HB := Aside0.mk (Below.refl w.heap.size w)
 have H : (if 0 ≤ a2 then (feed_grid_end.l0 k a1 a2 (shl .u64 1 a2) l3 (l3.length : Int) 0 a0_0 l0_1 l0_2) else (none)) = some (r1, r2) := h
 clear h
 by_cases c5 : 0 ≤ a2
 ·
  rw [if_pos c5] at H
  have c5b0 := eq_true c5
  have c5b1 : decide (0 ≤ a2) = true := decide_eq_true c5
  clear c5
  obtain ⟨ji6, hji6⟩ : ∃ j_ : Int, (shl .u64 1 a2) = j_ := ⟨_, rfl⟩
  replace H : (feed_grid_end.l0 k a1 a2 ji6 l3 (l3.length : Int) 0 a0_0 l0_1 l0_2) = some (r1, r2) := by first | (rw [hji6] at H; exact H) | (simp only [hji6] at H ⊢; exact H)
  have hji6_ : (IntKind.u64.wrap (1 * 2 ^ min a2.toNat 64)) = ji6 := hji6
  have hji6z : a2 ≤ 64 → (IntKind.u64.wrap (1 * 2 ^ a2.toNat)) = ji6 := shl_small hji6
  have hji6u : (IntKind.u64.wrap (2 ^ min a2.toNat 64)) = ji6 := by have h_ := hji6_; rw [Int.one_mul] at h_; exact h_
  have hji6v : a2 ≤ 64 → (IntKind.u64.wrap (2 ^ a2.toNat)) = ji6 := fun hle_ => by have h_ := hji6z hle_; rw [Int.one_mul] at h_; exact h_
  have H' := Aside0.mk H
  clear H
  go_enter Tryd.func100, Tryd.ntmps100
  go_wp2_with (first | ((with_reducible refine gate_dst (N := 4) rfl ?_); refine box_event ?hg (N := 4) ?hd (cs := #[.int .i64 a0_0, .slice A0_1 l0_1.length c0_1, .slice A0_2 l0_2.length c0_2]) (t := 73) ?hr ?_; (case hd => rfl); (case hg => rfl); (case hr => first | (go_simp; done) | (go_simp; rfl)); intro gb624 hg w7 hbox hb; have BK624 := Aside0.mk (hbox); have GW624 := bsz (w := w) hg; have GE624 := GW624; replace HB := Aside0.mk (below_step bel hb); clear hb hbox hg))
  go_loopg [2, 10, 18] k (fun kq v2 v10 v18 w' => ∃ (x2_1 : Int) (x10_1 : Int) (x18_1 : Int), v2 = .int .i64 x2_1 ∧ v10 = .int .u64 x10_1 ∧ v18 = .int .i64 x18_1 ∧ Aside0 (feed_grid_end.l0 kq a1 x2_1 x10_1 l3 (l3.length : Int) x18_1 a0_0 l0_1 l0_2 = some (r1, r2)) ∧ Aside0 (kq ≤ k) ∧ Aside0 (w'.heap[gb624]? = some (.cells #[.int .i64 a0_0, (.slice A0_1 l0_1.length c0_1), (.slice A0_2 l0_2.length c0_2)] 73 (0, 0))) ∧ Aside0 (Below w.heap.size w w'))
  case atStart => exact ⟨(a2), (ji6), (0), rsz, (by first | rfl | (simp; done) | (simp only [← hji6] <;> (first | rfl | simp)) | (simp [*]; done)), rsz, H', ⟨Nat.le_refl _⟩, ⟨blkz⟩, ⟨bel⟩⟩
  case round =>
   clear H'
   try clear c1
   try clear p2
   try clear c3
   try clear c5
   try clear c5b0
   try clear c5b1
   obtain ⟨x2_1, x10_1, x18_1, rfl, rfl, rfl, HA, HK1, BK624, HB⟩ := hrel
   cases gk with
   | zero => exact absurd HA.out (by simp [feed_grid_end.l0])
   | succ k1 =>
    have H := HA.out
    clear HA
    simp only [feed_grid_end.l0] at H
    by_cases c8 : x18_1 < (l3.length : Int)
    ·
     rw [if_pos c8] at H
     have c8b0 : decide (x18_1 < (l3.length : Int)) = true := decide_eq_true c8
     clear c8
     by_cases c9 : 0 ≤ x18_1
     ·
      rw [if_pos c9] at H
      have c9b0 : decide (0 ≤ x18_1) = true := decide_eq_true c9
      clear c9
      by_cases c10 : x18_1 < (l3.length : Int)
      ·
       rw [if_pos c10] at H
       have c10b0 : decide (x18_1 < (l3.length : Int)) = true := decide_eq_true c10
       clear c10
       have HC11 := Aside0.mk H
       clear H
       have p625 : 0 ≤ (x18_1 : Int) := of_decide_eq_true asz
       have q625 : x18_1 < (l3.length : Int) := of_decide_eq_true asz
       obtain ⟨ad625, e625, hx625_0⟩ := Kd.at_int HR3.out x18_1 p625 q625
       cases e625
       replace hx625_0 := (HB.out.cell (World.block_lt_of_cell? w _ hx625_0)).trans hx625_0
       replace p625 := eq_true p625
       replace q625 := eq_true q625
       go_upto_region 5 with (fail)
       go_cut [36] (fun v36 wc => ∃ (kq : Nat) (x36_10 : Bool), v36 = .bool x36_10 ∧ Aside0 (feed_grid_end.j1 kq a1 x2_1 x10_1 (rd l3 x18_1) l3 (l3.length : Int) x18_1 x36_10 a0_0 l0_1 l0_2 = some (r1, r2)) ∧ Aside0 (kq ≤ k1) ∧ Aside0 (wc.heap[gb624]? = some (.cells #[.int .i64 a0_0, (.slice A0_1 l0_1.length c0_1), (.slice A0_2 l0_2.length c0_2)] 73 (0, 0))) ∧ Aside0 (Below w.heap.size w wc))
       case first =>
        have H := HC11.out
        clear HC11
        replace H := Option.bind_eq_some_iff.mp H
        obtain ⟨t626, A120, H⟩ := H
        replace H : (if t626 = true then (if 0 ≤ (rd l3 x18_1) then (feed_grid_end.j1 k1 a1 x2_1 x10_1 (rd l3 x18_1) l3 (l3.length : Int) x18_1 ((Go.bits .and .i64 (shr .i64 a1 (rd l3 x18_1)) 1) == 0) a0_0 l0_1 l0_2) else (none)) else (feed_grid_end.j1 k1 a1 x2_1 x10_1 (rd l3 x18_1) l3 (l3.length : Int) x18_1 true a0_0 l0_1 l0_2)) = some (r1, r2) := H
        have A12 := Aside0.mk A120
        clear A120
        by_cases c13 : t626 = true
        ·
         subst c13
         have H1 : (if 0 ≤ (rd l3 x18_1) then (feed_grid_end.j1 k1 a1 x2_1 x10_1 (rd l3 x18_1) l3 (l3.length : Int) x18_1 ((Go.bits .and .i64 (shr .i64 a1 (rd l3 x18_1)) 1) == 0) a0_0 l0_1 l0_2) else (none)) = some (r1, r2) := by rw [if_pos rfl] at H; exact H
         clear H
         have H := H1
         clear H1
         by_cases c14 : 0 ≤ (rd l3 x18_1)
         ·
          rw [if_pos c14] at H
          have c14b0 := eq_true c14
          have c14b1 : decide (0 ≤ (rd l3 x18_1)) = true := decide_eq_true c14
          clear c14
          obtain ⟨ji15, hji15⟩ : ∃ j_ : Int, (shr .i64 a1 (rd l3 x18_1)) = j_ := ⟨_, rfl⟩
          replace H : (feed_grid_end.j1 k1 a1 x2_1 x10_1 (rd l3 x18_1) l3 (l3.length : Int) x18_1 ((Go.bits .and .i64 (ji15) 1) == 0) a0_0 l0_1 l0_2) = some (r1, r2) := by first | (rw [hji15] at H; exact H) | (simp only [hji15] at H ⊢; exact H)
          (try rw [hji15] at A12)
          have hji15_ : (a1 / 2 ^ min (rd l3 x18_1).toNat 64) = ji15 := hji15
          have hji15z : (rd l3 x18_1) ≤ 64 → (a1 / 2 ^ (rd l3 x18_1).toNat) = ji15 := shr_small hji15
          have H' := Aside0.mk H
          clear H
          have hcz16_0 := blkc BK624.out 0 (.int .i64 a0_0) rfl
          have hcz16_1 := blkc BK624.out 1 (.slice A0_1 l0_1.length c0_1) rfl
          have hcz16_2 := blkc BK624.out 2 (.slice A0_2 l0_2.length c0_2) rfl
          have hfz16_0 := blk_frozen BK624.out 0
          have hfz16_1 := blk_frozen BK624.out 1
          have hfz16_2 := blk_frozen BK624.out 2
          go_wp2_with (first | ((with_reducible refine gate_callee (f := 53) rfl ?_); refine goesL_ (some 28) rfl rfl Tryd.func53 (by kernel_rfl) rfl #[.int .i64 0, .int .i64 (rd l3 x18_1), .int .i64 (wrap64 ((l0_1.length : Int) - 1))] rfl mapz ?_; (with_reducible refine (feed_within.calls 0 (rd l3 x18_1) (wrap64 ((l0_1.length : Int) - 1)) true _ A12.out).mono ?_); rintro e w' ⟨rfl, ⟨nd, rfl⟩⟩; refine ⟨_, rfl, ?_⟩))
          go_meet
          case rel => exact ⟨_, (((Go.bits .and .i64 (ji15) 1) == 0)), (by first | rfl | (simp; done) | (simp only [← hji15] <;> (first | rfl | simp)) | (simp [*]; done)), H', ⟨by have := HK1.out; first | omega | exact Nat.le_refl _⟩, ⟨blkz⟩, ⟨bel⟩⟩
         ·
          rw [if_neg c14] at H
          exact absurd H (by simp)
        ·
         replace c13 := Bool.eq_false_iff.mpr c13
         subst c13
         have H1 : (feed_grid_end.j1 k1 a1 x2_1 x10_1 (rd l3 x18_1) l3 (l3.length : Int) x18_1 true a0_0 l0_1 l0_2) = some (r1, r2) := by rw [if_neg (show ¬ (false = true) by decide)] at H; exact H
         clear H
         have H := H1
         clear H1
         have H' := Aside0.mk H
         clear H
         have hcz17_0 := blkc BK624.out 0 (.int .i64 a0_0) rfl
         have hcz17_1 := blkc BK624.out 1 (.slice A0_1 l0_1.length c0_1) rfl
         have hcz17_2 := blkc BK624.out 2 (.slice A0_2 l0_2.length c0_2) rfl
         have hfz17_0 := blk_frozen BK624.out 0
         have hfz17_1 := blk_frozen BK624.out 1
         have hfz17_2 := blk_frozen BK624.out 2
         go_wp2_with (first | ((with_reducible refine gate_callee (f := 53) rfl ?_); refine goesL_ (some 28) rfl rfl Tryd.func53 (by kernel_rfl) rfl #[.int .i64 0, .int .i64 (rd l3 x18_1), .int .i64 (wrap64 ((l0_1.length : Int) - 1))] rfl mapz ?_; (with_reducible refine (feed_within.calls 0 (rd l3 x18_1) (wrap64 ((l0_1.length : Int) - 1)) false _ A12.out).mono ?_); rintro e w' ⟨rfl, ⟨nd, rfl⟩⟩; refine ⟨_, rfl, ?_⟩))
         go_meet
         case rel => exact ⟨_, (true), rsz, H', ⟨by have := HK1.out; first | omega | exact Nat.le_refl _⟩, ⟨blkz⟩, ⟨bel⟩⟩
       case rest =>
        clear HC11
        try clear c1
        try clear p2
        try clear c3
        try clear c5
        try clear c5b0
        try clear c5b1
        try clear p6
        try clear q6
        try clear hx6
        try clear c8
        try clear c8b0
        try clear c9
        try clear c9b0
        try clear c10
        try clear c10b0
        try clear c13
        try clear c14
        try clear c14b0
        try clear c14b1
        try clear hcz16_0
        try clear hcz16_1
        try clear hcz16_2
        try clear hcz17_0
        try clear hcz17_1
        try clear hcz17_2
        try clear hfz16_0
        try clear hfz16_1
        try clear hfz16_2
        try clear hfz17_0
        try clear hfz17_1
        try clear hfz17_2
        try clear hx625_0
        try clear p2
        try clear p625
        try clear q625
        obtain ⟨kq, x36_10, rfl, HA, HJ10, BK624, HB⟩ := hcut
        cases kq with
        | zero => exact absurd HA.out (by simp [feed_grid_end.j1])
        | succ kj10 =>
         have H := HA.out
         clear HA
         simp only [feed_grid_end.j1] at H
         by_cases c18 : x36_10 = true
         ·
          subst c18
          have H1 : (some (0, false)) = some (r1, r2) := by rw [if_pos rfl] at H; exact H
          clear H
          have H := H1
          clear H1
          simp only [Option.some.injEq, Prod.mk.injEq] at H
          obtain ⟨rfl, rfl⟩ := H
          go_wp2
          go_ret2
          exact ⟨by first | rfl | (simp [errW_none, errW_some] <;> rfl) | (simp only [← hji6]; first | rfl | (simp [errW_none, errW_some] <;> rfl)) | (simp [*, errW_none, errW_some] <;> rfl), bel⟩
         ·
          replace c18 := Bool.eq_false_iff.mpr c18
          subst c18
          have H1 : (if 0 ≤ (rd l3 x18_1) then (if (rd l3 x18_1) < (l0_1.length : Int) then (if x2_1 = ((rd_T69 l0_1 (rd l3 x18_1)).f0) then (if 0 ≤ ((rd_T69 l0_1 (rd l3 x18_1)).f1) then (if (Go.bits .and .u64 (shr .u64 x10_1 ((rd_T69 l0_1 (rd l3 x18_1)).f1)) 1) = 1 then (some (0, false)) else (feed_grid_end.l0 kj10 a1 ((rd_T69 l0_1 (rd l3 x18_1)).f1) (Go.bits .or .u64 x10_1 (shl .u64 1 ((rd_T69 l0_1 (rd l3 x18_1)).f1))) l3 (l3.length : Int) (wrap64 (x18_1 + 1)) a0_0 l0_1 l0_2)) else (none)) else (if x2_1 = ((rd_T69 l0_1 (rd l3 x18_1)).f1) then (if 0 ≤ ((rd_T69 l0_1 (rd l3 x18_1)).f0) then (if (Go.bits .and .u64 (shr .u64 x10_1 ((rd_T69 l0_1 (rd l3 x18_1)).f0)) 1) = 1 then (some (0, false)) else (feed_grid_end.l0 kj10 a1 ((rd_T69 l0_1 (rd l3 x18_1)).f0) (Go.bits .or .u64 x10_1 (shl .u64 1 ((rd_T69 l0_1 (rd l3 x18_1)).f0))) l3 (l3.length : Int) (wrap64 (x18_1 + 1)) a0_0 l0_1 l0_2)) else (none)) else (some (0, false)))) else (none)) else (none)) = some (r1, r2) := by rw [if_neg (show ¬ (false = true) by decide)] at H; exact H
          clear H
          have H := H1
          clear H1
          by_cases c19 : 0 ≤ (rd l3 x18_1)
          ·
           rw [if_pos c19] at H
           have c19b0 : decide (0 ≤ (rd l3 x18_1)) = true := decide_eq_true c19
           clear c19
           by_cases c20 : (rd l3 x18_1) < (l0_1.length : Int)
           ·
            rw [if_pos c20] at H
            have c20b0 : decide ((rd l3 x18_1) < (l0_1.length : Int)) = true := decide_eq_true c20
            clear c20
            by_cases c21 : x2_1 = ((rd_T69 l0_1 (rd l3 x18_1)).f0)
            ·
             rw [if_pos c21] at H
             have c21b0 : (x2_1 == ((rd_T69 l0_1 (rd l3 x18_1)).f0)) = true := beq_iff_eq.mpr c21
             have c21b1 : (x2_1 != ((rd_T69 l0_1 (rd l3 x18_1)).f0)) = false := bne_eq_false_iff_eq.mpr c21
             clear c21
             by_cases c22 : 0 ≤ ((rd_T69 l0_1 (rd l3 x18_1)).f1)
             ·
              rw [if_pos c22] at H
              have c22b0 := eq_true c22
              have c22b1 : decide (0 ≤ ((rd_T69 l0_1 (rd l3 x18_1)).f1)) = true := decide_eq_true c22
              clear c22
              obtain ⟨ji23, hji23⟩ : ∃ j_ : Int, (shr .u64 x10_1 ((rd_T69 l0_1 (rd l3 x18_1)).f1)) = j_ := ⟨_, rfl⟩
              replace H : (if (Go.bits .and .u64 (ji23) 1) = 1 then (some (0, false)) else (feed_grid_end.l0 kj10 a1 ((rd_T69 l0_1 (rd l3 x18_1)).f1) (Go.bits .or .u64 x10_1 (shl .u64 1 ((rd_T69 l0_1 (rd l3 x18_1)).f1))) l3 (l3.length : Int) (wrap64 (x18_1 + 1)) a0_0 l0_1 l0_2)) = some (r1, r2) := by first | (rw [hji23] at H; exact H) | (simp only [hji23] at H ⊢; exact H)
              have hji23_ : (x10_1 / 2 ^ min ((rd_T69 l0_1 (rd l3 x18_1)).f1).toNat 64) = ji23 := hji23
              have hji23z : ((rd_T69 l0_1 (rd l3 x18_1)).f1) ≤ 64 → (x10_1 / 2 ^ ((rd_T69 l0_1 (rd l3 x18_1)).f1).toNat) = ji23 := shr_small hji23
              by_cases c24 : (Go.bits .and .u64 (ji23) 1) = 1
              ·
               rw [if_pos c24] at H
               have c24b0 : ((Go.bits .and .u64 (ji23) 1) == 1) = true := beq_iff_eq.mpr c24
               have c24b1 : ((Go.bits .and .u64 (ji23) 1) != 1) = false := bne_eq_false_iff_eq.mpr c24
               clear c24
               simp only [Option.some.injEq, Prod.mk.injEq] at H
               obtain ⟨rfl, rfl⟩ := H
               have hcz25_0 := blkc BK624.out 0 (.int .i64 a0_0) rfl
               have hcz25_1 := blkc BK624.out 1 (.slice A0_1 l0_1.length c0_1) rfl
               have hcz25_2 := blkc BK624.out 2 (.slice A0_2 l0_2.length c0_2) rfl
               have hfz25_0 := blk_frozen BK624.out 0
               have hfz25_1 := blk_frozen BK624.out 1
               have hfz25_2 := blk_frozen BK624.out 2
               have p627 : 0 ≤ ((rd l3 x18_1) : Int) := of_decide_eq_true asz
               have q627 : (rd l3 x18_1) < (l0_1.length : Int) := of_decide_eq_true asz
               obtain ⟨ad627, e627, hx627_0, hx627_1⟩ := at_T69 HR0_1.out (rd l3 x18_1) p627 q627
               cases e627
               replace hx627_0 := (HB.out.cell (World.block_lt_of_cell? w _ hx627_0)).trans hx627_0
               replace hx627_1 := (HB.out.cell (World.block_lt_of_cell? w _ hx627_1)).trans hx627_1
               replace p627 := eq_true p627
               replace q627 := eq_true q627
               go_wp2_with (first | ((with_reducible refine gate_dst (N := 13) rfl ?_); refine box_event ?hg (N := 13) ?hd (cs := #[.int .i64 0, .int .i64 0]) (t := 69) ?hr ?_; (case hd => rfl); (case hg => rfl); (case hr => first | (go_simp; done) | (go_simp; rfl)); intro gb628 hg w26 hbox hb; have BK628 := Aside0.mk (hbox); have GW628 := bsz (w := w) hg; have GE628 := GW628; have NB624_628 := neL (g := gb624) hg; have NB628_624 := neR (g := gb624) hg; replace BK624 := Aside0.mk (blk_below (g := gb624) blkz hb); replace HB := Aside0.mk (below_step bel hb); clear hb hbox hg; have hnb27 := NB628_624.out; have hnc27 := NB624_628.out; have hcz28_0 := blkc BK628.out 0 (.int .i64 0) rfl; have hcz28_1 := blkc BK628.out 1 (.int .i64 0) rfl; have hfz28_0 := blk_frozen BK628.out 0; have hfz28_1 := blk_frozen BK628.out 1))
               go_ret2
               exact ⟨by first | rfl | (simp [errW_none, errW_some] <;> rfl) | (simp only [← hji6, ← hji23]; first | rfl | (simp [errW_none, errW_some] <;> rfl)) | (simp [*, errW_none, errW_some] <;> rfl), bel⟩
              ·
               rw [if_neg c24] at H
               have c24b0 : ((Go.bits .and .u64 (ji23) 1) == 1) = false := beq_eq_false_iff_ne.mpr c24
               have c24b1 : ((Go.bits .and .u64 (ji23) 1) != 1) = true := bne_iff_ne.mpr c24
               have c29b0 := eq_true (of_decide_eq_true asz : 0 ≤ ((rd_T69 l0_1 (rd l3 x18_1)).f1))
               obtain ⟨ji30, hji30⟩ : ∃ j_ : Int, (shl .u64 1 ((rd_T69 l0_1 (rd l3 x18_1)).f1)) = j_ := ⟨_, rfl⟩
               replace H : (feed_grid_end.l0 kj10 a1 ((rd_T69 l0_1 (rd l3 x18_1)).f1) (Go.bits .or .u64 x10_1 (ji30)) l3 (l3.length : Int) (wrap64 (x18_1 + 1)) a0_0 l0_1 l0_2) = some (r1, r2) := by first | (rw [hji30] at H; exact H) | (simp only [hji30] at H ⊢; exact H)
               have hji30_ : (IntKind.u64.wrap (1 * 2 ^ min ((rd_T69 l0_1 (rd l3 x18_1)).f1).toNat 64)) = ji30 := hji30
               have hji30z : ((rd_T69 l0_1 (rd l3 x18_1)).f1) ≤ 64 → (IntKind.u64.wrap (1 * 2 ^ ((rd_T69 l0_1 (rd l3 x18_1)).f1).toNat)) = ji30 := shl_small hji30
               have hji30u : (IntKind.u64.wrap (2 ^ min ((rd_T69 l0_1 (rd l3 x18_1)).f1).toNat 64)) = ji30 := by have h_ := hji30_; rw [Int.one_mul] at h_; exact h_
               have hji30v : ((rd_T69 l0_1 (rd l3 x18_1)).f1) ≤ 64 → (IntKind.u64.wrap (2 ^ ((rd_T69 l0_1 (rd l3 x18_1)).f1).toNat)) = ji30 := fun hle_ => by have h_ := hji30z hle_; rw [Int.one_mul] at h_; exact h_
               have H' := Aside0.mk H
               clear H
               have hcz31_0 := blkc BK624.out 0 (.int .i64 a0_0) rfl
               have hcz31_1 := blkc BK624.out 1 (.slice A0_1 l0_1.length c0_1) rfl
               have hcz31_2 := blkc BK624.out 2 (.slice A0_2 l0_2.length c0_2) rfl
               have hfz31_0 := blk_frozen BK624.out 0
               have hfz31_1 := blk_frozen BK624.out 1
               have hfz31_2 := blk_frozen BK624.out 2
               have p627 : 0 ≤ ((rd l3 x18_1) : Int) := of_decide_eq_true asz
               have q627 : (rd l3 x18_1) < (l0_1.length : Int) := of_decide_eq_true asz
               obtain ⟨ad627, e627, hx627_0, hx627_1⟩ := at_T69 HR0_1.out (rd l3 x18_1) p627 q627
               cases e627
               replace hx627_0 := (HB.out.cell (World.block_lt_of_cell? w _ hx627_0)).trans hx627_0
               replace hx627_1 := (HB.out.cell (World.block_lt_of_cell? w _ hx627_1)).trans hx627_1
               replace p627 := eq_true p627
               replace q627 := eq_true q627
               go_wp2_with (first | ((with_reducible refine gate_dst (N := 13) rfl ?_); refine box_event ?hg (N := 13) ?hd (cs := #[.int .i64 0, .int .i64 0]) (t := 69) ?hr ?_; (case hd => rfl); (case hg => rfl); (case hr => first | (go_simp; done) | (go_simp; rfl)); intro gb628 hg w32 hbox hb; have BK628 := Aside0.mk (hbox); have GW628 := bsz (w := w) hg; have GE628 := GW628; have NB624_628 := neL (g := gb624) hg; have NB628_624 := neR (g := gb624) hg; replace BK624 := Aside0.mk (blk_below (g := gb624) blkz hb); replace HB := Aside0.mk (below_step bel hb); clear hb hbox hg; have hnb33 := NB628_624.out; have hnc33 := NB624_628.out; have hcz34_0 := blkc BK628.out 0 (.int .i64 0) rfl; have hcz34_1 := blkc BK628.out 1 (.int .i64 0) rfl; have hfz34_0 := blk_frozen BK628.out 0; have hfz34_1 := blk_frozen BK628.out 1))
               go_roundg kj10
               case measure => have := HK1.out; have := HJ10.out; omega
               case rel => exact ⟨((rd_T69 l0_1 (rd l3 x18_1)).f1), (Go.bits .or .u64 x10_1 (ji30)), (wrap64 (x18_1 + 1)), rsz, (by first | rfl | (simp; done) | (simp only [← hji30] <;> (first | rfl | simp)) | (simp [*]; done)), rsz, H', ⟨by have := HK1.out; have := HJ10.out; omega⟩, ⟨by (with_reducible repeat (first | refine blk_drewN ?_ _ | refine blk_drew ?_ | refine blk_alloc ?_ _)); refine blk_far ?_ NB624_628.out _; (with_reducible repeat (first | refine blk_drewN ?_ _ | refine blk_drew ?_ | refine blk_alloc ?_ _)); refine blk_far ?_ NB624_628.out _; (with_reducible repeat (first | refine blk_drewN ?_ _ | refine blk_drew ?_ | refine blk_alloc ?_ _)); exact BK624.out⟩, ⟨bel⟩⟩
             ·
              rw [if_neg c22] at H
              exact absurd H (by simp)
            ·
             rw [if_neg c21] at H
             have c21b0 : (x2_1 == ((rd_T69 l0_1 (rd l3 x18_1)).f0)) = false := beq_eq_false_iff_ne.mpr c21
             have c21b1 : (x2_1 != ((rd_T69 l0_1 (rd l3 x18_1)).f0)) = true := bne_iff_ne.mpr c21
             by_cases c35 : x2_1 = ((rd_T69 l0_1 (rd l3 x18_1)).f1)
             ·
              rw [if_pos c35] at H
              have c35b0 : (x2_1 == ((rd_T69 l0_1 (rd l3 x18_1)).f1)) = true := beq_iff_eq.mpr c35
              have c35b1 : (x2_1 != ((rd_T69 l0_1 (rd l3 x18_1)).f1)) = false := bne_eq_false_iff_eq.mpr c35
              clear c35
              by_cases c36 : 0 ≤ ((rd_T69 l0_1 (rd l3 x18_1)).f0)
              ·
               rw [if_pos c36] at H
               have c36b0 := eq_true c36
               have c36b1 : decide (0 ≤ ((rd_T69 l0_1 (rd l3 x18_1)).f0)) = true := decide_eq_true c36
               clear c36
               obtain ⟨ji37, hji37⟩ : ∃ j_ : Int, (shr .u64 x10_1 ((rd_T69 l0_1 (rd l3 x18_1)).f0)) = j_ := ⟨_, rfl⟩
               replace H : (if (Go.bits .and .u64 (ji37) 1) = 1 then (some (0, false)) else (feed_grid_end.l0 kj10 a1 ((rd_T69 l0_1 (rd l3 x18_1)).f0) (Go.bits .or .u64 x10_1 (shl .u64 1 ((rd_T69 l0_1 (rd l3 x18_1)).f0))) l3 (l3.length : Int) (wrap64 (x18_1 + 1)) a0_0 l0_1 l0_2)) = some (r1, r2) := by first | (rw [hji37] at H; exact H) | (simp only [hji37] at H ⊢; exact H)
               have hji37_ : (x10_1 / 2 ^ min ((rd_T69 l0_1 (rd l3 x18_1)).f0).toNat 64) = ji37 := hji37
               have hji37z : ((rd_T69 l0_1 (rd l3 x18_1)).f0) ≤ 64 → (x10_1 / 2 ^ ((rd_T69 l0_1 (rd l3 x18_1)).f0).toNat) = ji37 := shr_small hji37
               by_cases c38 : (Go.bits .and .u64 (ji37) 1) = 1
               ·
                rw [if_pos c38] at H
                have c38b0 : ((Go.bits .and .u64 (ji37) 1) == 1) = true := beq_iff_eq.mpr c38
                have c38b1 : ((Go.bits .and .u64 (ji37) 1) != 1) = false := bne_eq_false_iff_eq.mpr c38
                clear c38
                simp only [Option.some.injEq, Prod.mk.injEq] at H
                obtain ⟨rfl, rfl⟩ := H
                have hcz39_0 := blkc BK624.out 0 (.int .i64 a0_0) rfl
                have hcz39_1 := blkc BK624.out 1 (.slice A0_1 l0_1.length c0_1) rfl
                have hcz39_2 := blkc BK624.out 2 (.slice A0_2 l0_2.length c0_2) rfl
                have hfz39_0 := blk_frozen BK624.out 0
                have hfz39_1 := blk_frozen BK624.out 1
                have hfz39_2 := blk_frozen BK624.out 2
                have p627 : 0 ≤ ((rd l3 x18_1) : Int) := of_decide_eq_true asz
                have q627 : (rd l3 x18_1) < (l0_1.length : Int) := of_decide_eq_true asz
                obtain ⟨ad627, e627, hx627_0, hx627_1⟩ := at_T69 HR0_1.out (rd l3 x18_1) p627 q627
                cases e627
                replace hx627_0 := (HB.out.cell (World.block_lt_of_cell? w _ hx627_0)).trans hx627_0
                replace hx627_1 := (HB.out.cell (World.block_lt_of_cell? w _ hx627_1)).trans hx627_1
                replace p627 := eq_true p627
                replace q627 := eq_true q627
                go_wp2_with (first | ((with_reducible refine gate_dst (N := 13) rfl ?_); refine box_event ?hg (N := 13) ?hd (cs := #[.int .i64 0, .int .i64 0]) (t := 69) ?hr ?_; (case hd => rfl); (case hg => rfl); (case hr => first | (go_simp; done) | (go_simp; rfl)); intro gb628 hg w40 hbox hb; have BK628 := Aside0.mk (hbox); have GW628 := bsz (w := w) hg; have GE628 := GW628; have NB624_628 := neL (g := gb624) hg; have NB628_624 := neR (g := gb624) hg; replace BK624 := Aside0.mk (blk_below (g := gb624) blkz hb); replace HB := Aside0.mk (below_step bel hb); clear hb hbox hg; have hnb41 := NB628_624.out; have hnc41 := NB624_628.out; have hcz42_0 := blkc BK628.out 0 (.int .i64 0) rfl; have hcz42_1 := blkc BK628.out 1 (.int .i64 0) rfl; have hfz42_0 := blk_frozen BK628.out 0; have hfz42_1 := blk_frozen BK628.out 1))
                go_ret2
                exact ⟨by first | rfl | (simp [errW_none, errW_some] <;> rfl) | (simp only [← hji6, ← hji37]; first | rfl | (simp [errW_none, errW_some] <;> rfl)) | (simp [*, errW_none, errW_some] <;> rfl), bel⟩
               ·
                rw [if_neg c38] at H
                have c38b0 : ((Go.bits .and .u64 (ji37) 1) == 1) = false := beq_eq_false_iff_ne.mpr c38
                have c38b1 : ((Go.bits .and .u64 (ji37) 1) != 1) = true := bne_iff_ne.mpr c38
                have c43b0 := eq_true (of_decide_eq_true asz : 0 ≤ ((rd_T69 l0_1 (rd l3 x18_1)).f0))
                obtain ⟨ji44, hji44⟩ : ∃ j_ : Int, (shl .u64 1 ((rd_T69 l0_1 (rd l3 x18_1)).f0)) = j_ := ⟨_, rfl⟩
                replace H : (feed_grid_end.l0 kj10 a1 ((rd_T69 l0_1 (rd l3 x18_1)).f0) (Go.bits .or .u64 x10_1 (ji44)) l3 (l3.length : Int) (wrap64 (x18_1 + 1)) a0_0 l0_1 l0_2) = some (r1, r2) := by first | (rw [hji44] at H; exact H) | (simp only [hji44] at H ⊢; exact H)
                have hji44_ : (IntKind.u64.wrap (1 * 2 ^ min ((rd_T69 l0_1 (rd l3 x18_1)).f0).toNat 64)) = ji44 := hji44
                have hji44z : ((rd_T69 l0_1 (rd l3 x18_1)).f0) ≤ 64 → (IntKind.u64.wrap (1 * 2 ^ ((rd_T69 l0_1 (rd l3 x18_1)).f0).toNat)) = ji44 := shl_small hji44
                have hji44u : (IntKind.u64.wrap (2 ^ min ((rd_T69 l0_1 (rd l3 x18_1)).f0).toNat 64)) = ji44 := by have h_ := hji44_; rw [Int.one_mul] at h_; exact h_
                have hji44v : ((rd_T69 l0_1 (rd l3 x18_1)).f0) ≤ 64 → (IntKind.u64.wrap (2 ^ ((rd_T69 l0_1 (rd l3 x18_1)).f0).toNat)) = ji44 := fun hle_ => by have h_ := hji44z hle_; rw [Int.one_mul] at h_; exact h_
                have H' := Aside0.mk H
                clear H
                have hcz45_0 := blkc BK624.out 0 (.int .i64 a0_0) rfl
                have hcz45_1 := blkc BK624.out 1 (.slice A0_1 l0_1.length c0_1) rfl
                have hcz45_2 := blkc BK624.out 2 (.slice A0_2 l0_2.length c0_2) rfl
                have hfz45_0 := blk_frozen BK624.out 0
                have hfz45_1 := blk_frozen BK624.out 1
                have hfz45_2 := blk_frozen BK624.out 2
                have p627 : 0 ≤ ((rd l3 x18_1) : Int) := of_decide_eq_true asz
                have q627 : (rd l3 x18_1) < (l0_1.length : Int) := of_decide_eq_true asz
                obtain ⟨ad627, e627, hx627_0, hx627_1⟩ := at_T69 HR0_1.out (rd l3 x18_1) p627 q627
                cases e627
                replace hx627_0 := (HB.out.cell (World.block_lt_of_cell? w _ hx627_0)).trans hx627_0
                replace hx627_1 := (HB.out.cell (World.block_lt_of_cell? w _ hx627_1)).trans hx627_1
                replace p627 := eq_true p627
                replace q627 := eq_true q627
                go_wp2_with (first | ((with_reducible refine gate_dst (N := 13) rfl ?_); refine box_event ?hg (N := 13) ?hd (cs := #[.int .i64 0, .int .i64 0]) (t := 69) ?hr ?_; (case hd => rfl); (case hg => rfl); (case hr => first | (go_simp; done) | (go_simp; rfl)); intro gb628 hg w46 hbox hb; have BK628 := Aside0.mk (hbox); have GW628 := bsz (w := w) hg; have GE628 := GW628; have NB624_628 := neL (g := gb624) hg; have NB628_624 := neR (g := gb624) hg; replace BK624 := Aside0.mk (blk_below (g := gb624) blkz hb); replace HB := Aside0.mk (below_step bel hb); clear hb hbox hg; have hnb47 := NB628_624.out; have hnc47 := NB624_628.out; have hcz48_0 := blkc BK628.out 0 (.int .i64 0) rfl; have hcz48_1 := blkc BK628.out 1 (.int .i64 0) rfl; have hfz48_0 := blk_frozen BK628.out 0; have hfz48_1 := blk_frozen BK628.out 1))
                go_roundg kj10
                case measure => have := HK1.out; have := HJ10.out; omega
                case rel => exact ⟨((rd_T69 l0_1 (rd l3 x18_1)).f0), (Go.bits .or .u64 x10_1 (ji44)), (wrap64 (x18_1 + 1)), rsz, (by first | rfl | (simp; done) | (simp only [← hji44] <;> (first | rfl | simp)) | (simp [*]; done)), rsz, H', ⟨by have := HK1.out; have := HJ10.out; omega⟩, ⟨by (with_reducible repeat (first | refine blk_drewN ?_ _ | refine blk_drew ?_ | refine blk_alloc ?_ _)); refine blk_far ?_ NB624_628.out _; (with_reducible repeat (first | refine blk_drewN ?_ _ | refine blk_drew ?_ | refine blk_alloc ?_ _)); refine blk_far ?_ NB624_628.out _; (with_reducible repeat (first | refine blk_drewN ?_ _ | refine blk_drew ?_ | refine blk_alloc ?_ _)); exact BK624.out⟩, ⟨bel⟩⟩
              ·
               rw [if_neg c36] at H
               exact absurd H (by simp)
             ·
              rw [if_neg c35] at H
              have c35b0 : (x2_1 == ((rd_T69 l0_1 (rd l3 x18_1)).f1)) = false := beq_eq_false_iff_ne.mpr c35
              have c35b1 : (x2_1 != ((rd_T69 l0_1 (rd l3 x18_1)).f1)) = true := bne_iff_ne.mpr c35
              simp only [Option.some.injEq, Prod.mk.injEq] at H
              obtain ⟨rfl, rfl⟩ := H
              have hcz49_0 := blkc BK624.out 0 (.int .i64 a0_0) rfl
              have hcz49_1 := blkc BK624.out 1 (.slice A0_1 l0_1.length c0_1) rfl
              have hcz49_2 := blkc BK624.out 2 (.slice A0_2 l0_2.length c0_2) rfl
              have hfz49_0 := blk_frozen BK624.out 0
              have hfz49_1 := blk_frozen BK624.out 1
              have hfz49_2 := blk_frozen BK624.out 2
              have p627 : 0 ≤ ((rd l3 x18_1) : Int) := of_decide_eq_true asz
              have q627 : (rd l3 x18_1) < (l0_1.length : Int) := of_decide_eq_true asz
              obtain ⟨ad627, e627, hx627_0, hx627_1⟩ := at_T69 HR0_1.out (rd l3 x18_1) p627 q627
              cases e627
              replace hx627_0 := (HB.out.cell (World.block_lt_of_cell? w _ hx627_0)).trans hx627_0
              replace hx627_1 := (HB.out.cell (World.block_lt_of_cell? w _ hx627_1)).trans hx627_1
              replace p627 := eq_true p627
              replace q627 := eq_true q627
              go_wp2_with (first | ((with_reducible refine gate_dst (N := 13) rfl ?_); refine box_event ?hg (N := 13) ?hd (cs := #[.int .i64 0, .int .i64 0]) (t := 69) ?hr ?_; (case hd => rfl); (case hg => rfl); (case hr => first | (go_simp; done) | (go_simp; rfl)); intro gb628 hg w50 hbox hb; have BK628 := Aside0.mk (hbox); have GW628 := bsz (w := w) hg; have GE628 := GW628; have NB624_628 := neL (g := gb624) hg; have NB628_624 := neR (g := gb624) hg; replace BK624 := Aside0.mk (blk_below (g := gb624) blkz hb); replace HB := Aside0.mk (below_step bel hb); clear hb hbox hg; have hnb51 := NB628_624.out; have hnc51 := NB624_628.out; have hcz52_0 := blkc BK628.out 0 (.int .i64 0) rfl; have hcz52_1 := blkc BK628.out 1 (.int .i64 0) rfl; have hfz52_0 := blk_frozen BK628.out 0; have hfz52_1 := blk_frozen BK628.out 1))
              go_ret2
              exact ⟨by first | rfl | (simp [errW_none, errW_some] <;> rfl) | (simp only [← hji6]; first | rfl | (simp [errW_none, errW_some] <;> rfl)) | (simp [*, errW_none, errW_some] <;> rfl), bel⟩
           ·
            rw [if_neg c20] at H
            exact absurd H (by simp)
          ·
           rw [if_neg c19] at H
           exact absurd H (by simp)
      ·
       rw [if_neg c10] at H
       exact absurd H (by simp)
     ·
      rw [if_neg c9] at H
      exact absurd H (by simp)
    ·
     rw [if_neg c8] at H
     have c8b0 : decide (x18_1 < (l3.length : Int)) = false := decide_eq_false c8
     clear c8
     simp only [Option.some.injEq, Prod.mk.injEq] at H
     obtain ⟨rfl, rfl⟩ := H
     go_wp2
     go_ret2
     exact ⟨by first | rfl | (simp [errW_none, errW_some] <;> rfl) | (simp only [← hji6]; first | rfl | (simp [errW_none, errW_some] <;> rfl)) | (simp [*, errW_none, errW_some] <;> rfl), bel⟩
 ·
  rw [if_neg c5] at H
  exact absurd H (by simp)

/-! ### feed_grid_isFeed: function 78 -/
def feed_grid_isFeed.p (k : Nat) (a0_0 : Int) (l0_1 : List S69) (l0_2 : List S71) (a1 a2 : Int) (l3 : List Int) (x : S71) : Bool := match feed_grid_end.f k a0_0 l0_1 l0_2 a1 x.f0 l3 with
 | some (at_, ok_) => ok_ && (at_ == a2)
 | none => false
set_option maxHeartbeats 4000000 in
set_option maxRecDepth 100000 in
theorem feed_grid_isFeed.clos (k : Nat) (a0_0 : Int) (A0_1 : Option Addr) (c0_1 : Nat) (l0_1 : List S69) (A0_2 : Option Addr) (c0_2 : Nat) (l0_2 : List S71) (a1 a2 : Int) (A3 : Option Addr) (c3 : Nat) (l3 : List Int) (g : Nat) (x : S71) (r1 : Int) (r2 : Bool) (w : World) (hr0_1 : Kd.C k69 w A0_1 l0_1.length l0_1) (hc0_1 : l0_1.length ≤ c0_1) (hr0_2 : Kd.C k71 w A0_2 l0_2.length l0_2) (hc0_2 : l0_2.length ≤ c0_2) (hr3 : Kd.C (Kd.int .i64) w A3 l3.length l3) (hc3 : l3.length ≤ c3) (hx : feed_grid_end.f k a0_0 l0_1 l0_2 a1 x.f0 l3 = some (r1, r2))
  (hg : g + 3 < w.heap.size) (hp0 : w.cell? ⟨g, 0, none⟩ = some (.int .i64 a0_0)) (hp1 : w.cell? ⟨g, 1, none⟩ = some (.slice A0_1 l0_1.length c0_1)) (hp2 : w.cell? ⟨g, 2, none⟩ = some (.slice A0_2 l0_2.length c0_2)) (hp3 : w.cell? ⟨g + 1, 0, none⟩ = some (.int .i64 a1)) (hp4 : w.cell? ⟨g + 2, 0, none⟩ = some (.int .i64 a2)) (hp5 : w.cell? ⟨g + 3, 0, none⟩ = some (.slice A3 l3.length c3)) :
  Calls Tryd.prog 99 #[.agg #[.int .i64 x.f0, .int .i64 x.f1], .pointer (some ⟨g, 0, none⟩), .pointer (some ⟨g + 1, 0, none⟩), .pointer (some ⟨g + 3, 0, none⟩), .pointer (some ⟨g + 2, 0, none⟩)] w fun e w' => e = .returned (.bool (feed_grid_isFeed.p k a0_0 l0_1 l0_2 a1 a2 l3 x)) ∧ Below w.heap.size w w' := by
 have hu := Tryd.underlying25
 have hu2 := Tryd.underlying73
 have hu3 := Tryd.underlying71
 have HR1 := Aside0.mk hr0_1
 have HR2 := Aside0.mk hr0_2
 clear hr0_1 hr0_2
 have HR := Aside0.mk hr3
 clear hr3
 have HX := Aside0.mk hx
 have hpx : Aside0 (feed_grid_isFeed.p k a0_0 l0_1 l0_2 a1 a2 l3 x = (r2 && (r1 == a2))) := ⟨by simp only [feed_grid_isFeed.p, hx]⟩
 clear hx
 have hB : ∀ o n, Aside0 (Below w.heap.size w ((w.alloc o).drewN n)) := fun o n => ⟨pw_below_drewN (below_alloc (Below.refl _ _) o) n⟩
 have hB0 : ∀ o, Aside0 (Below w.heap.size w (w.alloc o)) := fun o => ⟨below_alloc (Below.refl _ _) o⟩
 have hq0 : ∀ o, (w.alloc o).cell? ⟨g, 0, none⟩ = some (.int .i64 a0_0) := fun o => by rw [← hp0]; exact ((below_alloc (Below.refl w.heap.size w) o).cell (by show g < _; omega))
 have hq1 : ∀ o, (w.alloc o).cell? ⟨g, 1, none⟩ = some (.slice A0_1 l0_1.length c0_1) := fun o => by rw [← hp1]; exact ((below_alloc (Below.refl w.heap.size w) o).cell (by show g < _; omega))
 have hq2 : ∀ o, (w.alloc o).cell? ⟨g, 2, none⟩ = some (.slice A0_2 l0_2.length c0_2) := fun o => by rw [← hp2]; exact ((below_alloc (Below.refl w.heap.size w) o).cell (by show g < _; omega))
 have hq3 : ∀ o, (w.alloc o).cell? ⟨g + 1, 0, none⟩ = some (.int .i64 a1) := fun o => by rw [← hp3]; exact ((below_alloc (Below.refl w.heap.size w) o).cell (by show g + 1 < _; omega))
 have hq4 : ∀ o, (w.alloc o).cell? ⟨g + 2, 0, none⟩ = some (.int .i64 a2) := fun o => by rw [← hp4]; exact ((below_alloc (Below.refl w.heap.size w) o).cell (by show g + 2 < _; omega))
 have hq5 : ∀ o, (w.alloc o).cell? ⟨g + 3, 0, none⟩ = some (.slice A3 l3.length c3) := fun o => by rw [← hp5]; exact ((below_alloc (Below.refl w.heap.size w) o).cell (by show g + 3 < _; omega))
 have HP4 := Aside0.mk hp4
 clear hp0 hp1 hp2 hp3 hp4 hp5
 cases r2 with
 | true =>
  go_enter Tryd.func99, Tryd.ntmps99
  go_wp2_with (go_at_call 100; (refine (feed_grid_end.calls k a0_0 A0_1 c0_1 l0_1 A0_2 c0_2 l0_2 a1 x.f0 A3 c3 l3 r1 true _ (Kd.C_below HR1.out (hB0 _).out) hc0_1 (Kd.C_below HR2.out (hB0 _).out) hc0_2 (Kd.C_below HR.out (hB0 _).out) hc3 HX.out).mono ?_); rintro e w' ⟨rfl, hb⟩; have HB := Aside0.mk (below_step (hB0 _).out hb); have hc4 : w'.cell? ⟨g + 2, 0, none⟩ = some (.int .i64 a2) := (by rw [← HP4.out]; exact HB.out.cell (by show g + 2 < _; omega)); clear hb)
  go_ret
  exact ⟨by rw [hpx.out]; rfl, HB.out⟩
 | false =>
  go_enter Tryd.func99, Tryd.ntmps99
  go_wp2_with (go_at_call 100; (refine (feed_grid_end.calls k a0_0 A0_1 c0_1 l0_1 A0_2 c0_2 l0_2 a1 x.f0 A3 c3 l3 r1 false _ (Kd.C_below HR1.out (hB0 _).out) hc0_1 (Kd.C_below HR2.out (hB0 _).out) hc0_2 (Kd.C_below HR.out (hB0 _).out) hc3 HX.out).mono ?_); rintro e w' ⟨rfl, hb⟩; have HB := Aside0.mk (below_step (hB0 _).out hb); have hc4 : w'.cell? ⟨g + 2, 0, none⟩ = some (.int .i64 a2) := (by rw [← HP4.out]; exact HB.out.cell (by show g + 2 < _; omega)); clear hb)
  go_ret
  exact ⟨by rw [hpx.out]; rfl, HB.out⟩
theorem feed_grid_isFeed.enter (vs : Array Value) (W : World) : (callFunc 99 vs).run Tryd.prog W = .ok (.enter 99 vs) W := enters_ Tryd.func99 (by kernel_rfl) (by kernel_rfl) vs W

def feed_grid_isFeed.f (k : Nat) (a0_0 : Int) (l0_1 : List S69) (l0_2 : List S71) (a1 a2 : Int) (l3 : List Int) : Option Bool := if (l0_2.all fun x => (feed_grid_end.f k a0_0 l0_1 l0_2 a1 x.f0 l3).isSome) = true then some (l0_2.any (feed_grid_isFeed.p k a0_0 l0_1 l0_2 a1 a2 l3)) else none
theorem feed_grid_isFeed.mono : ∀ a0 a1 a2 a3 a4 a5 k, LeO (feed_grid_isFeed.f k a0 a1 a2 a3 a4 a5) (feed_grid_isFeed.f (k + 1) a0 a1 a2 a3 a4 a5) := by
 intro a0 a1 a2 a3 a4 a5 k r h
 unfold feed_grid_isFeed.f at h ⊢
 by_cases ha : (a2.all fun x => (feed_grid_end.f k a0 a1 a2 a3 x.f0 a5).isSome) = true
 ·
  rw [if_pos ha] at h
  have hs : ∀ x ∈ a2, feed_grid_end.f (k + 1) a0 a1 a2 a3 x.f0 a5 = feed_grid_end.f k a0 a1 a2 a3 x.f0 a5 := by
   intro x hx
   obtain ⟨v, hv⟩ := Option.isSome_iff_exists.1 (List.all_eq_true.1 ha x hx)
   rw [hv]
   exact feed_grid_end.mono _ _ _ _ _ _ k v hv
  have hp : a2.any (feed_grid_isFeed.p (k + 1) a0 a1 a2 a3 a4 a5) = a2.any (feed_grid_isFeed.p k a0 a1 a2 a3 a4 a5) := by
   rw [Bool.eq_iff_iff, List.any_eq_true, List.any_eq_true]
   constructor
   ·
    rintro ⟨x, hx, hh⟩; exact ⟨x, hx, by unfold feed_grid_isFeed.p at hh ⊢; rw [hs x hx] at hh; exact hh⟩
   ·
    rintro ⟨x, hx, hh⟩; exact ⟨x, hx, by unfold feed_grid_isFeed.p at hh ⊢; rw [hs x hx]; exact hh⟩
  rw [if_pos, hp]
  ·
   exact h
  ·
   rw [List.all_eq_true] at ha ⊢
   intro x hx
   rw [hs x hx]
   exact ha x hx
 ·
  rw [if_neg ha] at h; cases h
set_option maxHeartbeats 4000000 in
set_option maxRecDepth 100000 in
theorem feed_grid_isFeed.calls (k : Nat) (a0_0 : Int) (A0_1 : Option Addr) (c0_1 : Nat) (l0_1 : List S69) (A0_2 : Option Addr) (c0_2 : Nat) (l0_2 : List S71) (a1 a2 : Int) (A3 : Option Addr) (c3 : Nat) (l3 : List Int) (r : Bool) (w : World) (hr0_1 : Kd.C k69 w A0_1 l0_1.length l0_1) (hc0_1 : l0_1.length ≤ c0_1) (hr0_2 : Kd.C k71 w A0_2 l0_2.length l0_2) (hc0_2 : l0_2.length ≤ c0_2) (hr3 : Kd.C (Kd.int .i64) w A3 l3.length l3) (hc3 : l3.length ≤ c3) (h : feed_grid_isFeed.f k a0_0 l0_1 l0_2 a1 a2 l3 = some r) :
  Calls Tryd.prog 78 #[.agg #[.int .i64 a0_0, .slice A0_1 l0_1.length c0_1, .slice A0_2 l0_2.length c0_2], .int .i64 a1, .int .i64 a2, .slice A3 l3.length c3] w fun e w' => e = .returned (.bool r) ∧ Below w.heap.size w w' := by
 have hu := Tryd.underlying25
 have hu2 := Tryd.underlying73
 have HR1 := Aside0.mk hr0_1
 have HR2 := Aside0.mk hr0_2
 clear hr0_1 hr0_2
 have HR := Aside0.mk hr3
 clear hr3
 unfold feed_grid_isFeed.f at h
 by_cases ha : (l0_2.all fun x => (feed_grid_end.f k a0_0 l0_1 l0_2 a1 x.f0 l3).isSome) = true
 ·
  rw [if_pos ha] at h
  have HA := Aside0.mk (List.all_eq_true.1 ha)
  obtain rfl := Option.some.inj h
  clear h ha
  obtain ⟨w1, hw1⟩ : ∃ w1, w1 = w.alloc (.cells #[.int .i64 a0_0, .slice A0_1 l0_1.length c0_1, .slice A0_2 l0_2.length c0_2] 73) := ⟨_, rfl⟩
  obtain ⟨w2, hw2⟩ : ∃ w2, w2 = w1.alloc (.cells #[.int .i64 a1] 3) := ⟨_, rfl⟩
  obtain ⟨w3, hw3⟩ : ∃ w3, w3 = w2.alloc (.cells #[.int .i64 a2] 3) := ⟨_, rfl⟩
  obtain ⟨w4, hw4⟩ : ∃ w4, w4 = w3.alloc (.cells #[.slice A3 l3.length c3] 28) := ⟨_, rfl⟩
  have s1 : w1.heap.size = w.heap.size + 1 := by rw [hw1]; exact Array.size_push ..
  have s2 : w2.heap.size = w.heap.size + 2 := by rw [hw2, ← Nat.add_assoc w.heap.size 1 1, ← s1]; exact Array.size_push ..
  have s3 : w3.heap.size = w.heap.size + 3 := by rw [hw3, ← Nat.add_assoc w.heap.size 2 1, ← s2]; exact Array.size_push ..
  have s4 : w4.heap.size = w.heap.size + 4 := by rw [hw4, ← Nat.add_assoc w.heap.size 3 1, ← s3]; exact Array.size_push ..
  have b1 : Below w.heap.size w w1 := by rw [hw1]; exact below_alloc (Below.refl _ _) _
  have b2 : Below w1.heap.size w1 w2 := by rw [hw2]; exact below_alloc (Below.refl _ _) _
  have b3 : Below w2.heap.size w2 w3 := by rw [hw3]; exact below_alloc (Below.refl _ _) _
  have b4 : Below w3.heap.size w3 w4 := by rw [hw4]; exact below_alloc (Below.refl _ _) _
  have hB0 : Aside0 (Below w.heap.size w w4) := ⟨below_step (below_step (below_step b1 b2) b3) b4⟩
  have hcell : Aside0 (∀ W, Below w4.heap.size w4 W → (∀ j, W.cell? ⟨w.heap.size, j, none⟩ = (#[.int .i64 a0_0, .slice A0_1 l0_1.length c0_1, .slice A0_2 l0_2.length c0_2] : Array Value)[j]?) ∧ W.cell? ⟨w.heap.size + 1, 0, none⟩ = some (.int .i64 a1) ∧ W.cell? ⟨w.heap.size + 2, 0, none⟩ = some (.int .i64 a2) ∧ W.cell? ⟨w.heap.size + 3, 0, none⟩ = some (.slice A3 l3.length c3)) := ⟨fun W hb => by
   have t4 := fun (p : Addr) (hp : p.block < w4.heap.size) => hb.cell hp
   have t3 := fun (p : Addr) (hp : p.block < w3.heap.size) => b4.cell hp
   have t2 := fun (p : Addr) (hp : p.block < w2.heap.size) => b3.cell hp
   have t1 := fun (p : Addr) (hp : p.block < w1.heap.size) => b2.cell hp
   refine ⟨fun j => ?_, ?_, ?_, ?_⟩
   ·
    rw [t4 _ (by show w.heap.size < _; omega), t3 _ (by show w.heap.size < _; omega), t2 _ (by show w.heap.size < _; omega), t1 _ (by show w.heap.size < _; omega), hw1, World.cell?_alloc_at _ _ _ _ rfl]
   ·
    rw [t4 _ (by show w.heap.size + 1 < _; omega), t3 _ (by show w.heap.size + 1 < _; omega), t2 _ (by show w.heap.size + 1 < _; omega), hw2, World.cell?_alloc_at _ _ _ _ s1.symm]; rfl
   ·
    rw [t4 _ (by show w.heap.size + 2 < _; omega), t3 _ (by show w.heap.size + 2 < _; omega), hw3, World.cell?_alloc_at _ _ _ _ s2.symm]; rfl
   ·
    rw [t4 _ (by show w.heap.size + 3 < _; omega), hw4, World.cell?_alloc_at _ _ _ _ s3.symm]; rfl⟩
  have hs4 := Aside0.mk s4
  have hW : Aside0 (w4 = (((w.alloc (.cells #[.int .i64 a0_0, .slice A0_1 l0_1.length c0_1, .slice A0_2 l0_2.length c0_2] 73)).alloc (.cells #[.int .i64 a1] 3)).alloc (.cells #[.int .i64 a2] 3)).alloc (.cells #[.slice A3 l3.length c3] 28)) := ⟨by rw [hw4, hw3, hw2, hw1]⟩
  clear s1 s2 s3 s4 b1 b2 b3 b4 hw4 hw3 hw2 hw1
  go_enter Tryd.func78, Tryd.ntmps78
  go_wp2_with (go_at_call 56; rw [← hW.out]; (refine (slices_ContainsFunc_api_Feeder_api_Feeder.contains 99 #[.pointer (some ⟨w.heap.size, 0, none⟩), .pointer (some ⟨w.heap.size + 1, 0, none⟩), .pointer (some ⟨w.heap.size + 3, 0, none⟩), .pointer (some ⟨w.heap.size + 2, 0, none⟩)] (feed_grid_isFeed.p k a0_0 l0_1 l0_2 a1 a2 l3) A0_2 c0_2 l0_2 _ (Kd.C_below HR2.out hB0.out) hc0_2 feed_grid_isFeed.enter (fun x hx W hb => by
   obtain ⟨⟨r1, r2⟩, hv⟩ := Option.isSome_iff_exists.1 (HA.out x hx)
   have hc := hcell.out W hb
   have hBW := below_step hB0.out hb
   exact feed_grid_isFeed.clos k a0_0 A0_1 c0_1 l0_1 A0_2 c0_2 l0_2 a1 a2 A3 c3 l3 w.heap.size x r1 r2 W (Kd.C_below HR1.out hBW) hc0_1 (Kd.C_below HR2.out hBW) hc0_2 (Kd.C_below HR.out hBW) hc3 hv (by have := hb.size; have := hs4.out; omega) (hc.1 0) (hc.1 1) (hc.1 2) hc.2.1 hc.2.2.1 hc.2.2.2)).mono ?_); rintro e w' ⟨rfl, hb⟩; have HB := Aside0.mk (below_step hB0.out hb); clear hb)
  go_ret
  exact ⟨rfl, HB.out⟩
 ·
  rw [if_neg ha] at h; cases h

/-! ### feed_AreFeeds: function 39 -/
mutual
def feed_AreFeeds.l0 : Nat → Int → Int → List (List Int) → Int → List (List Int) → Int → Int → Int → List (S69) → List (S71) → Option (Bool × Int)
 | 0, _, _, _, _, _, _, _, _, _, _ => none
 | k + 1, x1, x2, x3, x12, x27, x28, x29, x639000, x639001, x639002 => if x29 < x28 then (if 0 ≤ x29 then (if x29 < (x27.length : Int) then ((feed_grid_isFeed.f k x639000 x639001 x639002 x1 x2 (rd_L4 x27 x29)).bind fun t640 => (if t640 = true then (feed_AreFeeds.l1 k x1 x2 x3 x12 x27 x28 x29 (rd_L4 x27 x29) ((rd_L4 x27 x29).length : Int) 0 x639000 x639001 x639002) else (some (false, 0)))) else (none)) else (none)) else (some (decide ((x3.length : Int) ≤ 20), 0))
def feed_AreFeeds.l1 : Nat → Int → Int → List (List Int) → Int → List (List Int) → Int → Int → List Int → Int → Int → Int → List (S69) → List (S71) → Option (Bool × Int)
 | 0, _, _, _, _, _, _, _, _, _, _, _, _, _ => none
 | k + 1, x1, x2, x3, x12, x27, x28, x29, x39, x40, x41, x639000, x639001, x639002 => if x41 < x40 then (if 0 ≤ x41 then (if x41 < (x39.length : Int) then (if 0 ≤ (rd x39 x41) then (if (Go.bits .and .i64 (shr .i64 x12 (rd x39 x41)) 1) = 1 then (some (false, 0)) else (feed_AreFeeds.l1 k x1 x2 x3 (Go.bits .or .i64 x12 (shl .i64 1 (rd x39 x41))) x27 x28 x29 x39 x40 (wrap64 (x41 + 1)) x639000 x639001 x639002)) else (none)) else (none)) else (none)) else (feed_AreFeeds.l0 k x1 x2 x3 x12 x27 x28 (wrap64 (x29 + 1)) x639000 x639001 x639002)
end
def feed_AreFeeds.f (k : Nat) (a0_0 : Int) (l0_1 : List (S69)) (l0_2 : List (S71)) (a1 : Int) (a2 : Int) (l3 : List (List Int)) : Option (Bool × Int) := (feed_asked.f a0_0 l0_1 l0_2 a1 a2).bind fun bt630 => (if bt630.2 = 0 then (feed_AreFeeds.l0 k a1 a2 l3 0 l3 (l3.length : Int) 0 bt630.1 l0_1 l0_2) else (some (false, bt630.2)))
theorem feed_AreFeeds.mono_l : ∀ k, (∀ y0 y1 y2 y3 y4 y5 y6 y7 y8 y9, LeO (feed_AreFeeds.l0 k y0 y1 y2 y3 y4 y5 y6 y7 y8 y9) (feed_AreFeeds.l0 (k + 1) y0 y1 y2 y3 y4 y5 y6 y7 y8 y9)) ∧ (∀ y0 y1 y2 y3 y4 y5 y6 y7 y8 y9 y10 y11 y12, LeO (feed_AreFeeds.l1 k y0 y1 y2 y3 y4 y5 y6 y7 y8 y9 y10 y11 y12) (feed_AreFeeds.l1 (k + 1) y0 y1 y2 y3 y4 y5 y6 y7 y8 y9 y10 y11 y12))
 | 0 => ⟨fun _ _ _ _ _ _ _ _ _ _ r h => by simp [feed_AreFeeds.l0] at h, fun _ _ _ _ _ _ _ _ _ _ _ _ _ r h => by simp [feed_AreFeeds.l1] at h⟩
 | k + 1 => by
  obtain ⟨ih0, ih1⟩ := feed_AreFeeds.mono_l k
  refine ⟨?_, ?_⟩
  ·
   intro y0 y1 y2 y3 y4 y5 y6 y7 y8 y9
   unfold feed_AreFeeds.l0
   repeat' first
   | (with_reducible exact ih0 _ _ _ _ _ _ _ _ _ _)
   | (with_reducible exact ih1 _ _ _ _ _ _ _ _ _ _ _ _ _)
   | (with_reducible exact feed_grid_isFeed.mono _ _ _ _ _ _ _)
   | (with_reducible exact LeO.refl _)
   | (with_reducible exact LeO.none _)
   | (with_reducible refine LeO.ite ?_ ?_)
   | (with_reducible refine LeO.bind ?_ (fun _ => ?_))
   | exact ih0 _ _ _ _ _ _ _ _ _ _
   | exact ih1 _ _ _ _ _ _ _ _ _ _ _ _ _
   | exact feed_grid_isFeed.mono _ _ _ _ _ _ _
   | exact LeO.none _
   | refine LeO.ite ?_ ?_
   | refine LeO.bind ?_ (fun _ => ?_)
  ·
   intro y0 y1 y2 y3 y4 y5 y6 y7 y8 y9 y10 y11 y12
   unfold feed_AreFeeds.l1
   repeat' first
   | (with_reducible exact ih0 _ _ _ _ _ _ _ _ _ _)
   | (with_reducible exact ih1 _ _ _ _ _ _ _ _ _ _ _ _ _)
   | (with_reducible exact feed_grid_isFeed.mono _ _ _ _ _ _ _)
   | (with_reducible exact LeO.refl _)
   | (with_reducible exact LeO.none _)
   | (with_reducible refine LeO.ite ?_ ?_)
   | (with_reducible refine LeO.bind ?_ (fun _ => ?_))
   | exact ih0 _ _ _ _ _ _ _ _ _ _
   | exact ih1 _ _ _ _ _ _ _ _ _ _ _ _ _
   | exact feed_grid_isFeed.mono _ _ _ _ _ _ _
   | exact LeO.none _
   | refine LeO.ite ?_ ?_
   | refine LeO.bind ?_ (fun _ => ?_)
theorem feed_AreFeeds.mono : ∀ a0 a1 a2 a3 a4 a5 k, LeO (feed_AreFeeds.f k a0 a1 a2 a3 a4 a5) (feed_AreFeeds.f (k + 1) a0 a1 a2 a3 a4 a5) := by
 intro a0 a1 a2 a3 a4 a5 k
 obtain ⟨ih0, ih1⟩ := feed_AreFeeds.mono_l k
 unfold feed_AreFeeds.f
 repeat' first
   | (with_reducible exact ih0 _ _ _ _ _ _ _ _ _ _)
   | (with_reducible exact ih1 _ _ _ _ _ _ _ _ _ _ _ _ _)
   | (with_reducible exact feed_grid_isFeed.mono _ _ _ _ _ _ _)
   | (with_reducible exact LeO.refl _)
   | (with_reducible exact LeO.none _)
   | (with_reducible refine LeO.ite ?_ ?_)
   | (with_reducible refine LeO.bind ?_ (fun _ => ?_))
   | exact ih0 _ _ _ _ _ _ _ _ _ _
   | exact ih1 _ _ _ _ _ _ _ _ _ _ _ _ _
   | exact feed_grid_isFeed.mono _ _ _ _ _ _ _
   | exact LeO.none _
   | refine LeO.ite ?_ ?_
   | refine LeO.bind ?_ (fun _ => ?_)
set_option maxHeartbeats 8000000 in
set_option maxRecDepth 100000 in
theorem feed_AreFeeds.calls (k : Nat) (a0_0 : Int) (A0_1 : Option Addr) (c0_1 : Nat) (l0_1 : List (S69)) (A0_2 : Option Addr) (c0_2 : Nat) (l0_2 : List (S71)) (a1 : Int) (a2 : Int) (A3 : Option Addr) (c3 : Nat) (l3 : List (List Int)) (r1 : Bool) (r2 : Int) (w : World) (hr0_1 : Kd.C k69 w A0_1 l0_1.length l0_1) (hc0_1 : l0_1.length ≤ c0_1) (hr0_2 : Kd.C k71 w A0_2 l0_2.length l0_2) (hc0_2 : l0_2.length ≤ c0_2) (hr3 : Kd.C (Kd.slice 3 (Kd.int .i64)) w A3 l3.length l3) (hc3 : l3.length ≤ c3) (h : feed_AreFeeds.f k a0_0 l0_1 l0_2 a1 a2 l3 = some (r1, r2)) :
  Calls Tryd.prog 39 #[.agg #[.int .i64 a0_0, .slice A0_1 l0_1.length c0_1, .slice A0_2 l0_2.length c0_2], .int .i64 a1, .int .i64 a2, .slice A3 l3.length c3] w fun e w' => e = .returned (.tuple #[.bool r1, .int .i64 r2]) ∧ Below w.heap.size w w' := by
 have hu25 := Tryd.underlying25
 have hu73 := Tryd.underlying73
 have HR0_1 := Aside0.mk hr0_1
 have HC0_1 := Aside0.mk hc0_1
 clear hr0_1 hc0_1
 have HR0_2 := Aside0.mk hr0_2
 have HC0_2 := Aside0.mk hc0_2
 clear hr0_2 hc0_2
 have HR3 := Aside0.mk hr3
 have HC3 := Aside0.mk hc3
 clear hr3 hc3
 have HB := Aside0.mk (Below.refl w.heap.size w)
 have H : ((feed_asked.f a0_0 l0_1 l0_2 a1 a2).bind fun bt630 => (if bt630.2 = 0 then (feed_AreFeeds.l0 k a1 a2 l3 0 l3 (l3.length : Int) 0 bt630.1 l0_1 l0_2) else (some (false, bt630.2)))) = some (r1, r2) := h
 clear h
 replace H := Option.bind_eq_some_iff.mp H
 obtain ⟨⟨t630, t637⟩, A50, H⟩ := H
 replace H : (if t637 = 0 then (feed_AreFeeds.l0 k a1 a2 l3 0 l3 (l3.length : Int) 0 t630 l0_1 l0_2) else (some (false, t637))) = some (r1, r2) := H
 have A5 := Aside0.mk A50
 clear A50
 by_cases c6 : t637 = 0
 ·
  rw [if_pos c6] at H
  have c6b0 : (t637 == 0) = true := beq_iff_eq.mpr c6
  have c6b1 : (t637 != 0) = false := bne_eq_false_iff_eq.mpr c6
  clear c6
  have H' := Aside0.mk H
  clear H
  go_enter Tryd.func39, Tryd.ntmps39
  go_wp2_with (first | ((with_reducible refine gate_dst (N := 4) rfl ?_); refine box_event ?hg (N := 4) ?hd (cs := #[.int .i64 a0_0, .slice A0_1 l0_1.length c0_1, .slice A0_2 l0_2.length c0_2]) (t := 25) ?hr ?_; (case hd => rfl); (case hg => rfl); (case hr => first | (go_simp; done) | (go_simp; rfl)); intro gb629 hg w7 hbox hb; have BK629 := Aside0.mk (hbox); have GW629 := bsz (w := w) hg; have GE629 := GW629; replace HB := Aside0.mk (below_step bel hb); clear hb hbox hg; have hcz8_0 := blkc BK629.out 0 (.int .i64 a0_0) rfl; have hcz8_1 := blkc BK629.out 1 (.slice A0_1 l0_1.length c0_1) rfl; have hcz8_2 := blkc BK629.out 2 (.slice A0_2 l0_2.length c0_2) rfl) | ((with_reducible refine gate_callee (f := 59) rfl ?_); refine goesL_ (some 21) rfl rfl Tryd.func59 (by kernel_rfl) rfl #[.agg #[.int .i64 a0_0, .slice A0_1 l0_1.length c0_1, .slice A0_2 l0_2.length c0_2], .int .i64 a1, .int .i64 a2] rfl mapz ?_; (with_reducible refine (feed_asked.calls a0_0 _ _ l0_1 _ _ l0_2 a1 a2 t630 t637 _ ?side1 ?side2 ?side3 ?side4 A5.out).mono ?_); (case side1 => exact cbz HR0_1); (case side2 => exact HC0_1.out); (case side3 => exact cbz HR0_2); (case side4 => exact HC0_2.out); rintro e w9 ⟨rfl, hb⟩; refine ⟨_, rfl, ?_⟩; replace BK629 := Aside0.mk (blk_below (g := gb629) blkz hb); replace HB := Aside0.mk (below_step bel hb); (try clear hb); (try clear hb2); (try clear hk); (try clear hi)) | ((with_reducible refine gate_dst (N := 10) rfl ?_); refine box_event ?hg (N := 10) ?hd (cs := #[.int .i64 0, .slice none 0 0, .slice none 0 0]) (t := 73) ?hr ?_; (case hd => rfl); (case hg => rfl); (case hr => first | (go_simp; done) | (go_simp; rfl)); intro gb638 hg w10 hbox hb; have BK638 := Aside0.mk (hbox); have GW638 := bsz (w := w) hg; have GE638 := GW638; have NB629_638 := neL (g := gb629) hg; have NB638_629 := neR (g := gb629) hg; replace BK629 := Aside0.mk (blk_below (g := gb629) blkz hb); replace HB := Aside0.mk (below_step bel hb); clear hb hbox hg; have hnb11 := NB638_629.out; have hnc11 := NB629_638.out; have hcz12_0 := blkc BK638.out 0 (.int .i64 0) rfl; have hcz12_1 := blkc BK638.out 1 (.slice none 0 0) rfl; have hcz12_2 := blkc BK638.out 2 (.slice none 0 0) rfl; have hfz12_0 := blk_frozen BK638.out 0; have hfz12_1 := blk_frozen BK638.out 1; have hfz12_2 := blk_frozen BK638.out 2))
  go_loopg [12, 29] k (fun kq v12 v29 w' => ∃ (x12_1 : Int) (x29_1 : Int), v12 = .int .i64 x12_1 ∧ v29 = .int .i64 x29_1 ∧ Aside0 (feed_AreFeeds.l0 kq a1 a2 l3 x12_1 l3 (l3.length : Int) x29_1 t630 l0_1 l0_2 = some (r1, r2)) ∧ Aside0 (kq ≤ k) ∧ Aside0 (w'.heap[gb629]? = some (.cells #[.int .i64 a0_0, (.slice A0_1 l0_1.length c0_1), (.slice A0_2 l0_2.length c0_2)] 25 (0, 0))) ∧ Aside0 (w'.heap[gb638]? = some (.cells #[.int .i64 t630, (.slice A0_1 l0_1.length c0_1), (.slice A0_2 l0_2.length c0_2)] 73 (0, 0))) ∧ Aside0 (Below w.heap.size w w'))
  case atStart => exact ⟨(0), (0), rsz, rsz, H', ⟨Nat.le_refl _⟩, ⟨by (with_reducible repeat (first | refine blk_drewN ?_ _ | refine blk_drew ?_ | refine blk_alloc ?_ _)); refine blk_far ?_ NB629_638.out _; (with_reducible repeat (first | refine blk_drewN ?_ _ | refine blk_drew ?_ | refine blk_alloc ?_ _)); refine blk_far ?_ NB629_638.out _; (with_reducible repeat (first | refine blk_drewN ?_ _ | refine blk_drew ?_ | refine blk_alloc ?_ _)); refine blk_far ?_ NB629_638.out _; (with_reducible repeat (first | refine blk_drewN ?_ _ | refine blk_drew ?_ | refine blk_alloc ?_ _)); exact BK629.out⟩, ⟨by (with_reducible repeat (first | refine blk_drewN ?_ _ | refine blk_drew ?_ | refine blk_alloc ?_ _)); refine blk_put (cs := #[.int .i64 t630, .slice A0_1 l0_1.length c0_1, .slice none 0 0]) ?_ 2 _ rfl; (with_reducible repeat (first | refine blk_drewN ?_ _ | refine blk_drew ?_ | refine blk_alloc ?_ _)); refine blk_put (cs := #[.int .i64 t630, .slice none 0 0, .slice none 0 0]) ?_ 1 _ rfl; (with_reducible repeat (first | refine blk_drewN ?_ _ | refine blk_drew ?_ | refine blk_alloc ?_ _)); refine blk_put (cs := #[.int .i64 0, .slice none 0 0, .slice none 0 0]) ?_ 0 _ rfl; (with_reducible repeat (first | refine blk_drewN ?_ _ | refine blk_drew ?_ | refine blk_alloc ?_ _)); exact BK638.out⟩, ⟨bel⟩⟩
  case round =>
   clear H'
   try clear c1
   try clear p2
   try clear c3
   try clear c5
   try clear c6
   try clear c6b0
   try clear c6b1
   try clear c11
   try clear hcz12_0
   try clear hcz12_1
   try clear hcz12_2
   try clear hcz8_0
   try clear hcz8_1
   try clear hcz8_2
   try clear hfz12_0
   try clear hfz12_1
   try clear hfz12_2
   try clear hfz8_0
   try clear hfz8_1
   try clear hfz8_2
   obtain ⟨x12_1, x29_1, rfl, rfl, HA, HK1, BK629, BK638, HB⟩ := hrel
   cases gk with
   | zero => exact absurd HA.out (by simp [feed_AreFeeds.l0])
   | succ k1 =>
    have H := HA.out
    clear HA
    simp only [feed_AreFeeds.l0] at H
    by_cases c13 : x29_1 < (l3.length : Int)
    ·
     rw [if_pos c13] at H
     have c13b0 : decide (x29_1 < (l3.length : Int)) = true := decide_eq_true c13
     clear c13
     by_cases c14 : 0 ≤ x29_1
     ·
      rw [if_pos c14] at H
      have c14b0 : decide (0 ≤ x29_1) = true := decide_eq_true c14
      clear c14
      by_cases c15 : x29_1 < (l3.length : Int)
      ·
       rw [if_pos c15] at H
       have c15b0 : decide (x29_1 < (l3.length : Int)) = true := decide_eq_true c15
       clear c15
       replace H := Option.bind_eq_some_iff.mp H
       obtain ⟨t640, A160, H⟩ := H
       replace H : (if t640 = true then (feed_AreFeeds.l1 k1 a1 a2 l3 x12_1 l3 (l3.length : Int) x29_1 (rd_L4 l3 x29_1) ((rd_L4 l3 x29_1).length : Int) 0 t630 l0_1 l0_2) else (some (false, 0))) = some (r1, r2) := H
       have A16 := Aside0.mk A160
       clear A160
       by_cases c17 : t640 = true
       ·
        subst c17
        have H1 : (feed_AreFeeds.l1 k1 a1 a2 l3 x12_1 l3 (l3.length : Int) x29_1 (rd_L4 l3 x29_1) ((rd_L4 l3 x29_1).length : Int) 0 t630 l0_1 l0_2) = some (r1, r2) := by rw [if_pos rfl] at H; exact H
        clear H
        have H := H1
        clear H1
        have H' := Aside0.mk H
        clear H
        have p639 : 0 ≤ (x29_1 : Int) := of_decide_eq_true asz
        have q639 : x29_1 < (l3.length : Int) := of_decide_eq_true asz
        obtain ⟨ad639, A639_0, c639_0, e639, hx639_0, hl639_0, hi639_0⟩ := at_L4 HR3.out x29_1 p639 q639
        cases e639
        replace hx639_0 := (HB.out.cell (World.block_lt_of_cell? w _ hx639_0)).trans hx639_0
        have HR639_0 := Aside0.mk hi639_0
        have HC639_0 := Aside0.mk hl639_0
        clear hi639_0 hl639_0
        replace p639 := eq_true p639
        replace q639 := eq_true q639
        have hnb18 := NB638_629.out
        have hnc18 := NB629_638.out
        have hcz19_0 := blkc BK638.out 0 (.int .i64 t630) rfl
        have hcz19_1 := blkc BK638.out 1 (.slice A0_1 l0_1.length c0_1) rfl
        have hcz19_2 := blkc BK638.out 2 (.slice A0_2 l0_2.length c0_2) rfl
        have hfz19_0 := blk_frozen BK638.out 0
        have hfz19_1 := blk_frozen BK638.out 1
        have hfz19_2 := blk_frozen BK638.out 2
        go_wp2_with (first | ((with_reducible refine gate_callee (f := 78) rfl ?_); refine goesL_ (some 37) rfl rfl Tryd.func78 (by kernel_rfl) rfl #[.agg #[.int .i64 t630, .slice A0_1 l0_1.length c0_1, .slice A0_2 l0_2.length c0_2], .int .i64 a1, .int .i64 a2, .slice A639_0 (rd_L4 l3 x29_1).length c639_0] rfl mapz ?_; (with_reducible refine (feed_grid_isFeed.calls k1 t630 _ _ l0_1 _ _ l0_2 a1 a2 _ _ (rd_L4 l3 x29_1) true _ ?side1 ?side2 ?side3 ?side4 ?side5 ?side6 A16.out).mono ?_); (case side1 => exact cbz HR0_1); (case side2 => exact HC0_1.out); (case side3 => exact cbz HR0_2); (case side4 => exact HC0_2.out); (case side5 => exact cbz HR639_0); (case side6 => exact HC639_0.out); rintro e w20 ⟨rfl, hb⟩; refine ⟨_, rfl, ?_⟩; replace BK629 := Aside0.mk (blk_below (g := gb629) blkz hb); replace BK638 := Aside0.mk (blk_below (g := gb638) blkz hb); replace HB := Aside0.mk (below_step bel hb); (try clear hb); (try clear hb2); (try clear hk); (try clear hi)))
        go_loopg [12, 41] k1 (fun kq v12 v41 w' => ∃ (x12_2 : Int) (x41_2 : Int), v12 = .int .i64 x12_2 ∧ v41 = .int .i64 x41_2 ∧ Aside0 (feed_AreFeeds.l1 kq a1 a2 l3 x12_2 l3 (l3.length : Int) x29_1 (rd_L4 l3 x29_1) ((rd_L4 l3 x29_1).length : Int) x41_2 t630 l0_1 l0_2 = some (r1, r2)) ∧ Aside0 (kq ≤ k1) ∧ Aside0 (w'.heap[gb629]? = some (.cells #[.int .i64 a0_0, (.slice A0_1 l0_1.length c0_1), (.slice A0_2 l0_2.length c0_2)] 25 (0, 0))) ∧ Aside0 (w'.heap[gb638]? = some (.cells #[.int .i64 t630, (.slice A0_1 l0_1.length c0_1), (.slice A0_2 l0_2.length c0_2)] 73 (0, 0))) ∧ Aside0 (Below w.heap.size w w'))
        case atStart => exact ⟨(x12_1), (0), rsz, rsz, H', ⟨Nat.le_refl _⟩, ⟨blkz⟩, ⟨blkz⟩, ⟨bel⟩⟩
        case round =>
         clear H'
         try clear c1
         try clear p2
         try clear c3
         try clear c5
         try clear c6
         try clear c6b0
         try clear c6b1
         try clear p6
         try clear q6
         try clear hx6
         try clear c7
         try clear c11
         try clear c13
         try clear c13b0
         try clear c14
         try clear c14b0
         try clear c15
         try clear c15b0
         try clear c17
         try clear c18
         try clear hcz12_0
         try clear hcz12_1
         try clear hcz12_2
         try clear hcz19_0
         try clear hcz19_1
         try clear hcz19_2
         try clear hcz8_0
         try clear hcz8_1
         try clear hcz8_2
         try clear hfz12_0
         try clear hfz12_1
         try clear hfz12_2
         try clear hfz19_0
         try clear hfz19_1
         try clear hfz19_2
         try clear hfz8_0
         try clear hfz8_1
         try clear hfz8_2
         try clear hx639_0
         try clear p2
         try clear p639
         try clear q639
         obtain ⟨x12_2, x41_2, rfl, rfl, HA, HK2, BK629, BK638, HB⟩ := hrel
         cases gk with
         | zero => exact absurd HA.out (by simp [feed_AreFeeds.l1])
         | succ k2 =>
          have H := HA.out
          clear HA
          simp only [feed_AreFeeds.l1] at H
          by_cases c21 : x41_2 < ((rd_L4 l3 x29_1).length : Int)
          ·
           rw [if_pos c21] at H
           have c21b0 : decide (x41_2 < ((rd_L4 l3 x29_1).length : Int)) = true := decide_eq_true c21
           clear c21
           by_cases c22 : 0 ≤ x41_2
           ·
            rw [if_pos c22] at H
            have c22b0 : decide (0 ≤ x41_2) = true := decide_eq_true c22
            clear c22
            by_cases c23 : x41_2 < ((rd_L4 l3 x29_1).length : Int)
            ·
             rw [if_pos c23] at H
             have c23b0 : decide (x41_2 < ((rd_L4 l3 x29_1).length : Int)) = true := decide_eq_true c23
             clear c23
             by_cases c24 : 0 ≤ (rd (rd_L4 l3 x29_1) x41_2)
             ·
              rw [if_pos c24] at H
              have c24b0 := eq_true c24
              have c24b1 : decide (0 ≤ (rd (rd_L4 l3 x29_1) x41_2)) = true := decide_eq_true c24
              clear c24
              obtain ⟨ji25, hji25⟩ : ∃ j_ : Int, (shr .i64 x12_2 (rd (rd_L4 l3 x29_1) x41_2)) = j_ := ⟨_, rfl⟩
              replace H : (if (Go.bits .and .i64 (ji25) 1) = 1 then (some (false, 0)) else (feed_AreFeeds.l1 k2 a1 a2 l3 (Go.bits .or .i64 x12_2 (shl .i64 1 (rd (rd_L4 l3 x29_1) x41_2))) l3 (l3.length : Int) x29_1 (rd_L4 l3 x29_1) ((rd_L4 l3 x29_1).length : Int) (wrap64 (x41_2 + 1)) t630 l0_1 l0_2)) = some (r1, r2) := by first | (rw [hji25] at H; exact H) | (simp only [hji25] at H ⊢; exact H)
              have hji25_ : (x12_2 / 2 ^ min (rd (rd_L4 l3 x29_1) x41_2).toNat 64) = ji25 := hji25
              have hji25z : (rd (rd_L4 l3 x29_1) x41_2) ≤ 64 → (x12_2 / 2 ^ (rd (rd_L4 l3 x29_1) x41_2).toNat) = ji25 := shr_small hji25
              by_cases c26 : (Go.bits .and .i64 (ji25) 1) = 1
              ·
               rw [if_pos c26] at H
               have c26b0 : ((Go.bits .and .i64 (ji25) 1) == 1) = true := beq_iff_eq.mpr c26
               have c26b1 : ((Go.bits .and .i64 (ji25) 1) != 1) = false := bne_eq_false_iff_eq.mpr c26
               clear c26
               simp only [Option.some.injEq, Prod.mk.injEq] at H
               obtain ⟨rfl, rfl⟩ := H
               have p641 : 0 ≤ (x41_2 : Int) := of_decide_eq_true asz
               have q641 : x41_2 < ((rd_L4 l3 x29_1).length : Int) := of_decide_eq_true asz
               obtain ⟨ad641, e641, hx641_0⟩ := Kd.at_int HR639_0.out x41_2 p641 q641
               cases e641
               replace hx641_0 := (HB.out.cell (World.block_lt_of_cell? w _ hx641_0)).trans hx641_0
               replace p641 := eq_true p641
               replace q641 := eq_true q641
               go_wp2
               go_ret2
               exact ⟨by first | rfl | (simp [errW_none, errW_some] <;> rfl) | (simp only [← hji25]; first | rfl | (simp [errW_none, errW_some] <;> rfl)) | (simp [*, errW_none, errW_some] <;> rfl), bel⟩
              ·
               rw [if_neg c26] at H
               have c26b0 : ((Go.bits .and .i64 (ji25) 1) == 1) = false := beq_eq_false_iff_ne.mpr c26
               have c26b1 : ((Go.bits .and .i64 (ji25) 1) != 1) = true := bne_iff_ne.mpr c26
               have c27b0 := eq_true (of_decide_eq_true asz : 0 ≤ (rd (rd_L4 l3 x29_1) x41_2))
               obtain ⟨ji28, hji28⟩ : ∃ j_ : Int, (shl .i64 1 (rd (rd_L4 l3 x29_1) x41_2)) = j_ := ⟨_, rfl⟩
               replace H : (feed_AreFeeds.l1 k2 a1 a2 l3 (Go.bits .or .i64 x12_2 (ji28)) l3 (l3.length : Int) x29_1 (rd_L4 l3 x29_1) ((rd_L4 l3 x29_1).length : Int) (wrap64 (x41_2 + 1)) t630 l0_1 l0_2) = some (r1, r2) := by first | (rw [hji28] at H; exact H) | (simp only [hji28] at H ⊢; exact H)
               have hji28_ : (IntKind.i64.wrap (1 * 2 ^ min (rd (rd_L4 l3 x29_1) x41_2).toNat 64)) = ji28 := hji28
               have hji28z : (rd (rd_L4 l3 x29_1) x41_2) ≤ 64 → (IntKind.i64.wrap (1 * 2 ^ (rd (rd_L4 l3 x29_1) x41_2).toNat)) = ji28 := shl_small hji28
               have hji28u : (IntKind.i64.wrap (2 ^ min (rd (rd_L4 l3 x29_1) x41_2).toNat 64)) = ji28 := by have h_ := hji28_; rw [Int.one_mul] at h_; exact h_
               have hji28v : (rd (rd_L4 l3 x29_1) x41_2) ≤ 64 → (IntKind.i64.wrap (2 ^ (rd (rd_L4 l3 x29_1) x41_2).toNat)) = ji28 := fun hle_ => by have h_ := hji28z hle_; rw [Int.one_mul] at h_; exact h_
               have hji28y : (wrap64 (1 * 2 ^ min (rd (rd_L4 l3 x29_1) x41_2).toNat 64)) = ji28 := (i64_w _).symm.trans hji28_
               have hji28x : (rd (rd_L4 l3 x29_1) x41_2) ≤ 64 → (wrap64 (1 * 2 ^ (rd (rd_L4 l3 x29_1) x41_2).toNat)) = ji28 := fun h_ => (i64_w _).symm.trans (hji28z h_)
               have H' := Aside0.mk H
               clear H
               have p641 : 0 ≤ (x41_2 : Int) := of_decide_eq_true asz
               have q641 : x41_2 < ((rd_L4 l3 x29_1).length : Int) := of_decide_eq_true asz
               obtain ⟨ad641, e641, hx641_0⟩ := Kd.at_int HR639_0.out x41_2 p641 q641
               cases e641
               replace hx641_0 := (HB.out.cell (World.block_lt_of_cell? w _ hx641_0)).trans hx641_0
               replace p641 := eq_true p641
               replace q641 := eq_true q641
               go_wp2
               go_roundg k2
               case measure => have := HK1.out; have := HK2.out; omega
               case rel => exact ⟨(Go.bits .or .i64 x12_2 (ji28)), (wrap64 (x41_2 + 1)), (by first | rfl | (simp; done) | (simp only [← hji28] <;> (first | rfl | simp)) | (simp [*]; done)), rsz, H', ⟨by have := HK1.out; have := HK2.out; omega⟩, ⟨blkz⟩, ⟨blkz⟩, ⟨bel⟩⟩
             ·
              rw [if_neg c24] at H
              exact absurd H (by simp)
            ·
             rw [if_neg c23] at H
             exact absurd H (by simp)
           ·
            rw [if_neg c22] at H
            exact absurd H (by simp)
          ·
           rw [if_neg c21] at H
           have c21b0 : decide (x41_2 < ((rd_L4 l3 x29_1).length : Int)) = false := decide_eq_false c21
           clear c21
           have H' := Aside0.mk H
           clear H
           go_wp2
           go_roundg k2
           case measure => have := HK1.out; have := HK2.out; omega
           case rel => exact ⟨(x12_2), (wrap64 (x29_1 + 1)), rsz, rsz, H', ⟨by have := HK1.out; have := HK2.out; omega⟩, ⟨blkz⟩, ⟨blkz⟩, ⟨bel⟩⟩
       ·
        replace c17 := Bool.eq_false_iff.mpr c17
        subst c17
        have H1 : (some (false, 0)) = some (r1, r2) := by rw [if_neg (show ¬ (false = true) by decide)] at H; exact H
        clear H
        have H := H1
        clear H1
        simp only [Option.some.injEq, Prod.mk.injEq] at H
        obtain ⟨rfl, rfl⟩ := H
        have p639 : 0 ≤ (x29_1 : Int) := of_decide_eq_true asz
        have q639 : x29_1 < (l3.length : Int) := of_decide_eq_true asz
        obtain ⟨ad639, A639_0, c639_0, e639, hx639_0, hl639_0, hi639_0⟩ := at_L4 HR3.out x29_1 p639 q639
        cases e639
        replace hx639_0 := (HB.out.cell (World.block_lt_of_cell? w _ hx639_0)).trans hx639_0
        have HR639_0 := Aside0.mk hi639_0
        have HC639_0 := Aside0.mk hl639_0
        clear hi639_0 hl639_0
        replace p639 := eq_true p639
        replace q639 := eq_true q639
        have hnb29 := NB638_629.out
        have hnc29 := NB629_638.out
        have hcz30_0 := blkc BK638.out 0 (.int .i64 t630) rfl
        have hcz30_1 := blkc BK638.out 1 (.slice A0_1 l0_1.length c0_1) rfl
        have hcz30_2 := blkc BK638.out 2 (.slice A0_2 l0_2.length c0_2) rfl
        have hfz30_0 := blk_frozen BK638.out 0
        have hfz30_1 := blk_frozen BK638.out 1
        have hfz30_2 := blk_frozen BK638.out 2
        go_wp2_with (first | ((with_reducible refine gate_callee (f := 78) rfl ?_); refine goesL_ (some 37) rfl rfl Tryd.func78 (by kernel_rfl) rfl #[.agg #[.int .i64 t630, .slice A0_1 l0_1.length c0_1, .slice A0_2 l0_2.length c0_2], .int .i64 a1, .int .i64 a2, .slice A639_0 (rd_L4 l3 x29_1).length c639_0] rfl mapz ?_; (with_reducible refine (feed_grid_isFeed.calls k1 t630 _ _ l0_1 _ _ l0_2 a1 a2 _ _ (rd_L4 l3 x29_1) false _ ?side1 ?side2 ?side3 ?side4 ?side5 ?side6 A16.out).mono ?_); (case side1 => exact cbz HR0_1); (case side2 => exact HC0_1.out); (case side3 => exact cbz HR0_2); (case side4 => exact HC0_2.out); (case side5 => exact cbz HR639_0); (case side6 => exact HC639_0.out); rintro e w31 ⟨rfl, hb⟩; refine ⟨_, rfl, ?_⟩; replace BK629 := Aside0.mk (blk_below (g := gb629) blkz hb); replace BK638 := Aside0.mk (blk_below (g := gb638) blkz hb); replace HB := Aside0.mk (below_step bel hb); (try clear hb); (try clear hb2); (try clear hk); (try clear hi)))
        go_ret2
        exact ⟨ezz, bel⟩
      ·
       rw [if_neg c15] at H
       exact absurd H (by simp)
     ·
      rw [if_neg c14] at H
      exact absurd H (by simp)
    ·
     rw [if_neg c13] at H
     have c13b0 : decide (x29_1 < (l3.length : Int)) = false := decide_eq_false c13
     clear c13
     simp only [Option.some.injEq, Prod.mk.injEq] at H
     obtain ⟨rfl, rfl⟩ := H
     go_wp2
     go_ret2
     exact ⟨ezz, bel⟩
 ·
  rw [if_neg c6] at H
  have c6b0 : (t637 == 0) = false := beq_eq_false_iff_ne.mpr c6
  have c6b1 : (t637 != 0) = true := bne_iff_ne.mpr c6
  simp only [Option.some.injEq, Prod.mk.injEq] at H
  obtain ⟨rfl, rfl⟩ := H
  go_enter Tryd.func39, Tryd.ntmps39
  go_wp2_with (first | ((with_reducible refine gate_dst (N := 4) rfl ?_); refine box_event ?hg (N := 4) ?hd (cs := #[.int .i64 a0_0, .slice A0_1 l0_1.length c0_1, .slice A0_2 l0_2.length c0_2]) (t := 25) ?hr ?_; (case hd => rfl); (case hg => rfl); (case hr => first | (go_simp; done) | (go_simp; rfl)); intro gb629 hg w32 hbox hb; have BK629 := Aside0.mk (hbox); have GW629 := bsz (w := w) hg; have GE629 := GW629; replace HB := Aside0.mk (below_step bel hb); clear hb hbox hg; have hcz33_0 := blkc BK629.out 0 (.int .i64 a0_0) rfl; have hcz33_1 := blkc BK629.out 1 (.slice A0_1 l0_1.length c0_1) rfl; have hcz33_2 := blkc BK629.out 2 (.slice A0_2 l0_2.length c0_2) rfl) | ((with_reducible refine gate_callee (f := 59) rfl ?_); refine goesL_ (some 21) rfl rfl Tryd.func59 (by kernel_rfl) rfl #[.agg #[.int .i64 a0_0, .slice A0_1 l0_1.length c0_1, .slice A0_2 l0_2.length c0_2], .int .i64 a1, .int .i64 a2] rfl mapz ?_; (with_reducible refine (feed_asked.calls a0_0 _ _ l0_1 _ _ l0_2 a1 a2 t630 t637 _ ?side1 ?side2 ?side3 ?side4 A5.out).mono ?_); (case side1 => exact cbz HR0_1); (case side2 => exact HC0_1.out); (case side3 => exact cbz HR0_2); (case side4 => exact HC0_2.out); rintro e w34 ⟨rfl, hb⟩; refine ⟨_, rfl, ?_⟩; replace BK629 := Aside0.mk (blk_below (g := gb629) blkz hb); replace HB := Aside0.mk (below_step bel hb); (try clear hb); (try clear hb2); (try clear hk); (try clear hi)) | ((with_reducible refine gate_dst (N := 10) rfl ?_); refine box_event ?hg (N := 10) ?hd (cs := #[.int .i64 0, .slice none 0 0, .slice none 0 0]) (t := 73) ?hr ?_; (case hd => rfl); (case hg => rfl); (case hr => first | (go_simp; done) | (go_simp; rfl)); intro gb638 hg w35 hbox hb; have BK638 := Aside0.mk (hbox); have GW638 := bsz (w := w) hg; have GE638 := GW638; have NB629_638 := neL (g := gb629) hg; have NB638_629 := neR (g := gb629) hg; replace BK629 := Aside0.mk (blk_below (g := gb629) blkz hb); replace HB := Aside0.mk (below_step bel hb); clear hb hbox hg; have hnb36 := NB638_629.out; have hnc36 := NB629_638.out; have hcz37_0 := blkc BK638.out 0 (.int .i64 0) rfl; have hcz37_1 := blkc BK638.out 1 (.slice none 0 0) rfl; have hcz37_2 := blkc BK638.out 2 (.slice none 0 0) rfl; have hfz37_0 := blk_frozen BK638.out 0; have hfz37_1 := blk_frozen BK638.out 1; have hfz37_2 := blk_frozen BK638.out 2))
  go_ret2
  exact ⟨ezz, bel⟩

end Go.Proofs.YtoilhnmdemnknaaDoor.XFeed