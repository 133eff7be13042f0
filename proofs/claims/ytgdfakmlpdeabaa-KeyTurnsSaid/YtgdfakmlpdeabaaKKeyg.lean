-- Written by wip/pack.py of this repo: texts of this claim, put together.
import Derived.Test.YtgdfakmlpdeabaaKKeyf
namespace Go.Proofs.Ytgdfakmlpdeabaa.XKey
open Go.RowKit Go.Proofs.YtgdfakmlpdeabaaW.PrintWords Go.Proofs.YtgdfakmlpdeabaaW.PrintLast Go.Proofs.YtgdfakmlpdeabaaW.PrintMore
attribute [local go_sem] max2_int min2_int max_two min_two max_three min_three max_four min_four   -- for this text's walks alone
set_option linter.unusedVariables false
set_option linter.unusedSimpArgs false
/-! ### dropperref06_Turned: function 38 -/
def dropperref06_Turned.l0 : Nat → Int → Int → List (S64) → Int → List (S64) → Option (Int × (List (S64)) × Int)
 | 0, _, _, _, _, _ => none
 | k + 1, x5, x363000, x363001, x366000, x366001 => if x5 < (x363001.length : Int) then (if 0 ≤ x5 then ((some (([] : List Int) : List Int)).bind fun y368 => (if y368.length + ((rd_T64 x363001 x5).f1).length < 17592186044416 then ((some (([] : List Int) : List Int)).bind fun y374 => (if y374.length + ((rd_T64 x363001 x5).f0).length < 17592186044416 then (if x366001.length < 2932031007402 then (dropperref06_Turned.l0 k (wrap64 (x5 + 1)) x363000 x363001 x366000 (x366001 ++ [(⟨(y368 ++ ((rd_T64 x363001 x5).f1)), (y374 ++ ((rd_T64 x363001 x5).f0))⟩ : S64)])) else (none)) else (none))) else (none))) else (none)) else (some (x366000, x366001, 0))
def dropperref06_Turned.f (k : Nat) (a0_0 : Int) (l0_1 : List (S64)) : Option (Int × (List (S64)) × Int) := (dropperref06_Valid.f k a0_0 l0_1).bind fun t364 => (if t364 = true then (dropperref06_Turned.l0 k 0 a0_0 l0_1 a0_0 ([] : List (S64))) else (some (0, ([] : List (S64)), 60)))
def dropperref06_Turned.T8 : Bool × List (List Nat × List Nat) := (true, [([], []), ([0], [0]), ([], []), ([], []), ([3], [3]), ([2, 4], [2, 4]), ([], []), ([], []), ([7], [7]), ([6, 8, 5], [6, 8]), ([5, 9], [5, 9]), ([10], [10]), ([1, 11, 9], [1, 11]), ([0, 1, 2, 3, 4, 5, 6, 7, 8, 9, 10, 11, 12], []), ([13, 12, 12, 0, 1, 2, 3, 4, 5, 6, 7, 8, 9, 10, 11, 12], [12, 13])])
def dropperref06_Turned.B8 : List Nat := [0, 1, 0, 0, 8, 28, 0, 0, 128, 508, 1020, 2044, 4095, 8191, 16383]
theorem dropperref06_Turned.tab8 : rtab .any (opsOf Try.f38 8) = dropperref06_Turned.T8 := by kernel_rfl
theorem dropperref06_Turned.bits8 : waitsOk dropperref06_Turned.T8.2 dropperref06_Turned.B8 = true := by kernel_rfl
set_option maxHeartbeats 8000000 in
set_option maxRecDepth 100000 in
theorem dropperref06_Turned.calls (k : Nat) (a0_0 : Int) (A0_1 : Option Addr) (c0_1 : Nat) (l0_1 : List (S64)) (r1 : Int) (r2 : List (S64)) (r3 : Int) (w : World) (hr0_1 : Kd.C k64 w A0_1 l0_1.length l0_1) (hc0_1 : l0_1.length ≤ c0_1) (h : dropperref06_Turned.f k a0_0 l0_1 = some (r1, r2, r3)) :
  Calls Try.prog 38 #[.agg #[.int .i64 a0_0, .slice A0_1 l0_1.length c0_1]] w fun e w' => ∃ v1_ : Value, e = .returned (.tuple #[.agg #[.int .i64 r1, v1_], .int .i64 r3]) ∧ Kd.S k64 64 w' w.heap.size (fun _ => True) v1_ r2 ∧ Below w.heap.size w w' := by
 have hu24 := Try.underlying24
 have hu64 := Try.underlying64
 have HR0_1 := Aside0.mk hr0_1
 have HC0_1 := Aside0.mk hc0_1
 clear hr0_1 hc0_1
 have HB := Aside0.mk (Below.refl w.heap.size w)
 have H : ((dropperref06_Valid.f k a0_0 l0_1).bind fun t364 => (if t364 = true then (dropperref06_Turned.l0 k 0 a0_0 l0_1 a0_0 ([] : List (S64))) else (some (0, ([] : List (S64)), 60)))) = some (r1, r2, r3) := h
 clear h
 replace H := Option.bind_eq_some_iff.mp H
 obtain ⟨t364, A20, H⟩ := H
 try dsimp only at H
 have A2 := Aside0.mk A20
 clear A20
 by_cases c3 : t364 = true
 ·
  subst c3
  rw [if_pos rfl] at H
  have H' := Aside0.mk H
  clear H
  go_enter Try.func38, Try.ntmps38
  go_wp2_with (first | ((with_reducible refine gate_dst (N := 1) rfl ?_); refine box_event ?hg (N := 1) ?hd (cs := #[.int .i64 a0_0, .slice A0_1 l0_1.length c0_1]) (t := 24) ?hr ?_; (case hd => rfl); (case hg => rfl); (case hr => first | (go_simp; done) | (go_simp; rfl)); intro gb362 hg w4 hbox hb; have BK362 := Aside0.mk (hbox); have GW362 := bsz (w := w) hg; have GE362 := GW362; replace HB := Aside0.mk (below_step bel hb); clear hb hbox hg) | ((with_reducible refine gate_dst (N := 2) rfl ?_); refine box_event ?hg (N := 2) ?hd (cs := #[.int .i64 0, .slice none 0 0]) (t := 24) ?hr ?_; (case hd => rfl); (case hg => rfl); (case hr => first | (go_simp; done) | (go_simp; rfl)); intro gb363 hg w5 hbox hb; have BK363 := Aside0.mk (hbox); have GW363 := bsz (w := w) hg; have GE363 := GW363; have NB362_363 := neL (g := gb362) hg; have NB363_362 := neR (g := gb362) hg; replace BK362 := Aside0.mk (blk_below (g := gb362) blkz hb); replace HB := Aside0.mk (below_step bel hb); clear hb hbox hg; have hnb6 := NB362_363.out; have hnc6 := NB363_362.out; obtain ⟨hcz7_0, hcz7_1⟩ := bc2 BK362.out) | ((with_reducible refine gate_callee (f := 12) rfl ?_); refine goesL_ (some 8) rfl rfl Try.func12 (by kernel_rfl) rfl #[.agg #[.int .i64 a0_0, .slice A0_1 l0_1.length c0_1]] rfl mapz ?_; (with_reducible refine (dropperref06_Valid.calls k a0_0 _ _ l0_1 true _ (cbz HR0_1) HC0_1.out A2.out).mono ?_); rintro e w8 ⟨rfl, hb⟩; refine ⟨_, rfl, ?_⟩; replace BK362 := Aside0.mk (blk_below (g := gb362) blkz hb); replace BK363 := Aside0.mk (blk_below (g := gb363) blkz hb); replace HB := Aside0.mk (below_step bel hb); clear hb; obtain ⟨hcz9_0, hcz9_1⟩ := bc2 BK362.out) | ((with_reducible refine gate_dst (N := 4) rfl ?_); refine box_event ?hg (N := 4) ?hd (cs := #[.int .i64 0, .slice none 0 0]) (t := 24) ?hr ?_; (case hd => rfl); (case hg => rfl); (case hr => first | (go_simp; done) | (go_simp; rfl)); intro gb365 hg w10 hbox hb; have BK365 := Aside0.mk (hbox); have GW365 := bsz (w := w) hg; have GE365 := GW365; have NB362_365 := neL (g := gb362) hg; have NB365_362 := neR (g := gb362) hg; have NB363_365 := neL (g := gb363) hg; have NB365_363 := neR (g := gb363) hg; replace BK362 := Aside0.mk (blk_below (g := gb362) blkz hb); replace BK363 := Aside0.mk (blk_below (g := gb363) blkz hb); replace HB := Aside0.mk (below_step bel hb); clear hb hbox hg; have hnb11 := NB365_362.out; have hnc11 := NB362_365.out; have hnb12 := NB365_363.out; have hnc12 := NB363_365.out; obtain ⟨hcz13_0, hcz13_1⟩ := bc2 BK365.out; obtain ⟨hfz13_0, hfz13_1⟩ := bf2 BK365.out))
  go_loopg [5] k (fun kq v5 w' => ∃ (x5_1 : Int) (x366001_1 : List (S64)) (u366001 : Value), v5 = .int .i64 x5_1 ∧ Aside0 (dropperref06_Turned.l0 kq x5_1 a0_0 l0_1 a0_0 x366001_1 = some (r1, r2, r3)) ∧ Aside0 (kq ≤ k) ∧ Aside0 (Kd.S k64 64 w' w.heap.size (fun _ => True) u366001 x366001_1) ∧ Aside0 (w'.heap[gb362]? = some (.cells #[.int .i64 a0_0, (.slice A0_1 l0_1.length c0_1)] 24 (0, 0))) ∧ Aside0 (w'.heap[gb363]? = some (.cells #[.int .i64 0, (.slice none 0 0)] 24 (0, 0))) ∧ Aside0 (w'.heap[gb365]? = some (.cells #[.int .i64 a0_0, u366001] 24 (0, 0))) ∧ Aside0 (Below w.heap.size w w'))
  case atStart => exact ⟨(0), (([] : List (S64))), (.slice none 0 0), rsz, H', ⟨Nat.le_refl _⟩, ⟨by first | exact Kd.S_nil _ _ _ _ _ | exact Kd.N_nil _ _ _ _ _ | exact Kd.V_nil _ _ _ _ _ | exact Kd.Q_nil _ _ _ _ _ | exact Kd.R_nil _ _ _ _ _⟩, ⟨by (with_reducible repeat (first | refine blk_drewN ?_ _ | refine blk_drew ?_ | refine blk_alloc ?_ _)); refine blk_far ?_ NB362_365.out _; (with_reducible repeat (first | refine blk_drewN ?_ _ | refine blk_drew ?_ | refine blk_alloc ?_ _)); refine blk_far ?_ NB362_365.out _; (with_reducible repeat (first | refine blk_drewN ?_ _ | refine blk_drew ?_ | refine blk_alloc ?_ _)); exact BK362.out⟩, ⟨by (with_reducible repeat (first | refine blk_drewN ?_ _ | refine blk_drew ?_ | refine blk_alloc ?_ _)); refine blk_far ?_ NB363_365.out _; (with_reducible repeat (first | refine blk_drewN ?_ _ | refine blk_drew ?_ | refine blk_alloc ?_ _)); refine blk_far ?_ NB363_365.out _; (with_reducible repeat (first | refine blk_drewN ?_ _ | refine blk_drew ?_ | refine blk_alloc ?_ _)); exact BK363.out⟩, ⟨by (with_reducible repeat (first | refine blk_drewN ?_ _ | refine blk_drew ?_ | refine blk_alloc ?_ _)); refine blk_put (cs := #[.int .i64 a0_0, .slice none 0 0]) ?_ 1 _ rfl; (with_reducible repeat (first | refine blk_drewN ?_ _ | refine blk_drew ?_ | refine blk_alloc ?_ _)); refine blk_put (cs := #[.int .i64 0, .slice none 0 0]) ?_ 0 _ rfl; (with_reducible repeat (first | refine blk_drewN ?_ _ | refine blk_drew ?_ | refine blk_alloc ?_ _)); exact BK365.out⟩, ⟨bel⟩⟩
  case round =>
   clear H'
   (try clear c1); (try clear p2); (try clear c3); (try clear c6); (try clear c11); (try clear c12); (try clear hcz13_0); (try clear hcz13_1); (try clear hcz7_0); (try clear hcz7_1); (try clear hcz9_0); (try clear hcz9_1); (try clear hfz13_0); (try clear hfz13_1); (try clear hfz7_0); (try clear hfz7_1); (try clear hfz9_0); (try clear hfz9_1)
   obtain ⟨x5_1, x366001_1, u366001, rfl, HA, HK1, HO_366001, BK362, BK363, BK365, HB⟩ := hrel
   cases gk with
   | zero => exact absurd HA.out (by simp [dropperref06_Turned.l0])
   | succ k1 =>
    have H := HA.out
    clear HA
    simp only [dropperref06_Turned.l0] at H
    by_cases c14 : x5_1 < (l0_1.length : Int)
    ·
     rw [if_pos c14] at H
     have c14b0 : decide (x5_1 < (l0_1.length : Int)) = true := decide_eq_true c14
     clear c14
     by_cases c15 : 0 ≤ x5_1
     ·
      rw [if_pos c15] at H
      have c15b0 : decide (0 ≤ x5_1) = true := decide_eq_true c15
      clear c15
      obtain ⟨y368, hy368⟩ : ∃ y_ : List Int, y_ = (([] : List Int)) := ⟨_, rfl⟩
      replace H : (if y368.length + ((rd_T64 l0_1 x5_1).f1).length < 17592186044416 then ((some (([] : List Int) : List Int)).bind fun y374 => (if y374.length + ((rd_T64 l0_1 x5_1).f0).length < 17592186044416 then (if x366001_1.length < 2932031007402 then (dropperref06_Turned.l0 k1 (wrap64 (x5_1 + 1)) a0_0 l0_1 a0_0 (x366001_1 ++ [(⟨(y368 ++ ((rd_T64 l0_1 x5_1).f1)), (y374 ++ ((rd_T64 l0_1 x5_1).f0))⟩ : S64)])) else (none)) else (none))) else (none)) = some (r1, r2, r3) := by first | (rw [hy368]; with_reducible exact H) | (have H2_ := (Option.bind_some _ _).symm.trans H; rw [hy368]; with_reducible exact H2_) | (have H2_ := (Option.bind_some _ _).symm.trans H; with_reducible exact H2_) | with_reducible exact H | (rw [hy368]; exact H) | exact H
      have Ny368 := Aside0.mk hy368
      clear hy368
      by_cases c16 : y368.length + ((rd_T64 l0_1 x5_1).f1).length < 17592186044416
      ·
       rw [if_pos c16] at H
       have LMc16 := Aside0.mk c16
       clear c16
       obtain ⟨y371, hy371⟩ : ∃ y_ : List Int, y_ = (y368 ++ ((rd_T64 l0_1 x5_1).f1)) := ⟨_, rfl⟩
       replace H : ((some (([] : List Int) : List Int)).bind fun y374 => (if y374.length + ((rd_T64 l0_1 x5_1).f0).length < 17592186044416 then (if x366001_1.length < 2932031007402 then (dropperref06_Turned.l0 k1 (wrap64 (x5_1 + 1)) a0_0 l0_1 a0_0 (x366001_1 ++ [(⟨y371, (y374 ++ ((rd_T64 l0_1 x5_1).f0))⟩ : S64)])) else (none)) else (none))) = some (r1, r2, r3) := by first | (rw [hy371]; with_reducible exact H) | (have H2_ := (Option.bind_some _ _).symm.trans H; rw [hy371]; with_reducible exact H2_) | (have H2_ := (Option.bind_some _ _).symm.trans H; with_reducible exact H2_) | with_reducible exact H | (rw [hy371]; exact H) | exact H
       have Ny371 := Aside0.mk hy371
       clear hy371
       obtain ⟨y374, hy374⟩ : ∃ y_ : List Int, y_ = (([] : List Int)) := ⟨_, rfl⟩
       replace H : (if y374.length + ((rd_T64 l0_1 x5_1).f0).length < 17592186044416 then (if x366001_1.length < 2932031007402 then (dropperref06_Turned.l0 k1 (wrap64 (x5_1 + 1)) a0_0 l0_1 a0_0 (x366001_1 ++ [(⟨y371, (y374 ++ ((rd_T64 l0_1 x5_1).f0))⟩ : S64)])) else (none)) else (none)) = some (r1, r2, r3) := by first | (rw [hy374]; with_reducible exact H) | (have H2_ := (Option.bind_some _ _).symm.trans H; rw [hy374]; with_reducible exact H2_) | (have H2_ := (Option.bind_some _ _).symm.trans H; with_reducible exact H2_) | with_reducible exact H | (rw [hy374]; exact H) | exact H
       have Ny374 := Aside0.mk hy374
       clear hy374
       by_cases c17 : y374.length + ((rd_T64 l0_1 x5_1).f0).length < 17592186044416
       ·
        rw [if_pos c17] at H
        have LMc17 := Aside0.mk c17
        clear c17
        obtain ⟨y377, hy377⟩ : ∃ y_ : List Int, y_ = (y374 ++ ((rd_T64 l0_1 x5_1).f0)) := ⟨_, rfl⟩
        replace H : (if x366001_1.length < 2932031007402 then (dropperref06_Turned.l0 k1 (wrap64 (x5_1 + 1)) a0_0 l0_1 a0_0 (x366001_1 ++ [(⟨y371, y377⟩ : S64)])) else (none)) = some (r1, r2, r3) := by first | (rw [hy377]; with_reducible exact H) | (have H2_ := (Option.bind_some _ _).symm.trans H; rw [hy377]; with_reducible exact H2_) | (have H2_ := (Option.bind_some _ _).symm.trans H; with_reducible exact H2_) | with_reducible exact H | (rw [hy377]; exact H) | exact H
        have Ny377 := Aside0.mk hy377
        clear hy377
        by_cases c18 : x366001_1.length < 2932031007402
        ·
         rw [if_pos c18] at H
         have LMc18 := Aside0.mk c18
         clear c18
         obtain ⟨y380, hy380⟩ : ∃ y_ : List (S64), y_ = (x366001_1 ++ [(⟨y371, y377⟩ : S64)]) := ⟨_, rfl⟩
         replace H : (dropperref06_Turned.l0 k1 (wrap64 (x5_1 + 1)) a0_0 l0_1 a0_0 y380) = some (r1, r2, r3) := by first | (rw [hy380]; with_reducible exact H) | (have H2_ := (Option.bind_some _ _).symm.trans H; rw [hy380]; with_reducible exact H2_) | (have H2_ := (Option.bind_some _ _).symm.trans H; with_reducible exact H2_) | with_reducible exact H | (rw [hy380]; exact H) | exact H
         have Ny380 := Aside0.mk hy380
         clear hy380
         have H' := Aside0.mk H
         clear H
         have hnb19 := NB362_363.out
         have hnc19 := NB363_362.out
         have hnb20 := NB362_365.out
         have hnc20 := NB365_362.out
         obtain ⟨hcz21_0, hcz21_1⟩ := bc2 BK362.out
         obtain ⟨hfz21_0, hfz21_1⟩ := bf2 BK362.out
         have p366 : 0 ≤ (x5_1 : Int) := of_decide_eq_true asz
         have q366 : x5_1 < (l0_1.length : Int) := of_decide_eq_true asz
         obtain ⟨ad366, A366_0, c366_0, A366_1, c366_1, e366, hx366_0, hx366_1, hl366_0, hi366_0, hl366_1, hi366_1⟩ := at_T64 HR0_1.out x5_1 p366 q366
         cases e366
         replace hx366_0 := (HB.out.cell (World.block_lt_of_cell? w _ hx366_0)).trans hx366_0
         replace hx366_1 := (HB.out.cell (World.block_lt_of_cell? w _ hx366_1)).trans hx366_1
         have HR366_0 := Aside0.mk hi366_0
         have HC366_0 := Aside0.mk hl366_0
         clear hi366_0 hl366_0
         have HR366_1 := Aside0.mk hi366_1
         have HC366_1 := Aside0.mk hl366_1
         clear hi366_1 hl366_1
         replace p366 := eq_true p366
         replace q366 := eq_true q366
         try go_wp2_with (first | ((with_reducible refine gate_dst (N := 6) rfl ?_); refine box_event ?hg (N := 6) ?hd (cs := #[.slice none 0 0, .slice none 0 0]) (t := 64) ?hr ?_; (case hd => rfl); (case hg => rfl); (case hr => first | (go_simp; done) | (go_simp; rfl)); intro gb367 hg w22 hbox hb; have BK367 := Aside0.mk (hbox); have GW367 := bsz (w := w) hg; have GE367 := GW367; have NB362_367 := neL (g := gb362) hg; have NB367_362 := neR (g := gb362) hg; have NB363_367 := neL (g := gb363) hg; have NB367_363 := neR (g := gb363) hg; have NB365_367 := neL (g := gb365) hg; have NB367_365 := neR (g := gb365) hg; replace HO_366001 := Aside0.mk (Kd.S_below (Kd.S_elderB (by (with_reducible repeat (first | apply Kd.S_alloc | apply Kd.S_drewN | apply Kd.S_drew)); exact HO_366001.out) gb367 (Nat.le_of_eq hg.symm)) hb); replace BK362 := Aside0.mk (blk_below (g := gb362) blkz hb); replace BK363 := Aside0.mk (blk_below (g := gb363) blkz hb); replace BK365 := Aside0.mk (blk_below (g := gb365) blkz hb); replace HB := Aside0.mk (below_step bel hb); clear hb hbox hg; have hnb23 := NB367_362.out; have hnc23 := NB362_367.out; have hnb24 := NB367_363.out; have hnc24 := NB363_367.out; have hnb25 := NB367_365.out; have hnc25 := NB365_367.out; obtain ⟨hcz26_0, hcz26_1⟩ := bc2 BK367.out; obtain ⟨hfz26_0, hfz26_1⟩ := bf2 BK367.out; obtain ⟨Ao27, co27, eo27⟩ := Kd.S_slice HO_366001.out; subst eo27))
         have n0_ : Aside0 (Kd.S k64 64 ((w22.setCell ⟨gb367, 0, none⟩ (.slice A366_0 ((rd_T64 l0_1 x5_1).f0).length c366_0)).setCell ⟨gb367, 1, none⟩ (.slice A366_1 ((rd_T64 l0_1 x5_1).f1).length c366_1)) w.heap.size (fun k_ => k_ ≠ gb367) (.slice Ao27 x366001_1.length co27) x366001_1) := ⟨by (with_reducible repeat (first | apply Kd.S_alloc | apply Kd.S_drewN | apply Kd.S_drew)); exact Kd.S_mono (Kd.S_far (p := ⟨gb367, 1, none⟩) (Kd.S_far (p := ⟨gb367, 0, none⟩) (Kd.S_mono HO_366001.out (fun k_ hk => (⟨hk, hk.2⟩ : _ ∧ k_ ≠ gb367))) (fun _ hk => hk.2) (.slice A366_0 ((rd_T64 l0_1 x5_1).f0).length c366_0)) (fun _ hk => hk.2) (.slice A366_1 ((rd_T64 l0_1 x5_1).f1).length c366_1)) (fun _ hk => hk.1.2)⟩
         have n1_ : Aside0 (((w22.setCell ⟨gb367, 0, none⟩ (.slice A366_0 ((rd_T64 l0_1 x5_1).f0).length c366_0)).setCell ⟨gb367, 1, none⟩ (.slice A366_1 ((rd_T64 l0_1 x5_1).f1).length c366_1)).heap[gb362]? = some (.cells #[.int .i64 a0_0, .slice (some ad366) l0_1.length c0_1] 24 (0, 0))) := ⟨by (with_reducible repeat (first | refine blk_drewN ?_ _ | refine blk_drew ?_ | refine blk_alloc ?_ _)); refine blk_far ?_ NB362_367.out _; (with_reducible repeat (first | refine blk_drewN ?_ _ | refine blk_drew ?_ | refine blk_alloc ?_ _)); refine blk_far ?_ NB362_367.out _; (with_reducible repeat (first | refine blk_drewN ?_ _ | refine blk_drew ?_ | refine blk_alloc ?_ _)); exact BK362.out⟩
         have n2_ : Aside0 (((w22.setCell ⟨gb367, 0, none⟩ (.slice A366_0 ((rd_T64 l0_1 x5_1).f0).length c366_0)).setCell ⟨gb367, 1, none⟩ (.slice A366_1 ((rd_T64 l0_1 x5_1).f1).length c366_1)).heap[gb363]? = some (.cells #[.int .i64 0, .slice none 0 0] 24 (0, 0))) := ⟨by (with_reducible repeat (first | refine blk_drewN ?_ _ | refine blk_drew ?_ | refine blk_alloc ?_ _)); refine blk_far ?_ NB363_367.out _; (with_reducible repeat (first | refine blk_drewN ?_ _ | refine blk_drew ?_ | refine blk_alloc ?_ _)); refine blk_far ?_ NB363_367.out _; (with_reducible repeat (first | refine blk_drewN ?_ _ | refine blk_drew ?_ | refine blk_alloc ?_ _)); exact BK363.out⟩
         have n3_ : Aside0 (((w22.setCell ⟨gb367, 0, none⟩ (.slice A366_0 ((rd_T64 l0_1 x5_1).f0).length c366_0)).setCell ⟨gb367, 1, none⟩ (.slice A366_1 ((rd_T64 l0_1 x5_1).f1).length c366_1)).heap[gb365]? = some (.cells #[.int .i64 a0_0, .slice Ao27 x366001_1.length co27] 24 (0, 0))) := ⟨by (with_reducible repeat (first | refine blk_drewN ?_ _ | refine blk_drew ?_ | refine blk_alloc ?_ _)); refine blk_far ?_ NB365_367.out _; (with_reducible repeat (first | refine blk_drewN ?_ _ | refine blk_drew ?_ | refine blk_alloc ?_ _)); refine blk_far ?_ NB365_367.out _; (with_reducible repeat (first | refine blk_drewN ?_ _ | refine blk_drew ?_ | refine blk_alloc ?_ _)); exact BK365.out⟩
         have n4_ : Aside0 (((w22.setCell ⟨gb367, 0, none⟩ (.slice A366_0 ((rd_T64 l0_1 x5_1).f0).length c366_0)).setCell ⟨gb367, 1, none⟩ (.slice A366_1 ((rd_T64 l0_1 x5_1).f1).length c366_1)).heap[gb367]? = some (.cells #[.slice A366_0 ((rd_T64 l0_1 x5_1).f0).length c366_0, .slice A366_1 ((rd_T64 l0_1 x5_1).f1).length c366_1] 64 (0, 0))) := ⟨by (with_reducible repeat (first | refine blk_drewN ?_ _ | refine blk_drew ?_ | refine blk_alloc ?_ _)); refine blk_put (cs := #[.slice A366_0 ((rd_T64 l0_1 x5_1).f0).length c366_0, .slice none 0 0]) ?_ 1 _ rfl; (with_reducible repeat (first | refine blk_drewN ?_ _ | refine blk_drew ?_ | refine blk_alloc ?_ _)); refine blk_put (cs := #[.slice none 0 0, .slice none 0 0]) ?_ 0 _ rfl; (with_reducible repeat (first | refine blk_drewN ?_ _ | refine blk_drew ?_ | refine blk_alloc ?_ _)); exact BK367.out⟩
         have n5_ : Aside0 (Below w.heap.size w ((w22.setCell ⟨gb367, 0, none⟩ (.slice A366_0 ((rd_T64 l0_1 x5_1).f0).length c366_0)).setCell ⟨gb367, 1, none⟩ (.slice A366_1 ((rd_T64 l0_1 x5_1).f1).length c366_1))) := ⟨bel⟩
         (try clear HO_366001)
         (try clear BK362)
         (try clear BK363)
         (try clear BK365)
         (try clear BK367)
         (try clear HB)
         generalize ((w22.setCell ⟨gb367, 0, none⟩ (.slice A366_0 ((rd_T64 l0_1 x5_1).f0).length c366_0)).setCell ⟨gb367, 1, none⟩ (.slice A366_1 ((rd_T64 l0_1 x5_1).f1).length c366_1)) = w28 at n0_ n1_ n2_ n3_ n4_ n5_ ⊢
         have HO_366001 := n0_
         have BK362 := n1_
         have BK363 := n2_
         have BK365 := n3_
         have BK367 := n4_
         have HB := n5_
         clear n0_ n1_ n2_ n3_ n4_ n5_
         have n0_ := Aside0.mk (Kd.S_drew HO_366001.out)
         have n1_ := Aside0.mk (blk_drew BK362.out)
         have n2_ := Aside0.mk (blk_drew BK363.out)
         have n3_ := Aside0.mk (blk_drew BK365.out)
         have n4_ := Aside0.mk (blk_drew BK367.out)
         have n5_ := Aside0.mk (below_drew1 HB.out)
         clear HO_366001
         clear BK362
         clear BK363
         clear BK365
         clear BK367
         clear HB
         have HO_366001 := n0_
         have BK362 := n1_
         have BK363 := n2_
         have BK365 := n3_
         have BK367 := n4_
         have HB := n5_
         clear n0_ n1_ n2_ n3_ n4_ n5_
         refine start_ (n := 15) (S := fun w' => w'.cell? ⟨gb365, 0, none⟩ = some (.int .i64 a0_0) ∧ w'.cell? ⟨gb365, 1, none⟩ = some (.slice Ao27 x366001_1.length co27) ∧ w'.cell? ⟨gb367, 0, none⟩ = some (.slice A366_0 ((rd_T64 l0_1 x5_1).f0).length c366_0) ∧ w'.cell? ⟨gb367, 1, none⟩ = some (.slice A366_1 ((rd_T64 l0_1 x5_1).f1).length c366_1)) (ds := [14]) #[false, false, false, false, false, false, false, false, false, false, false, false, false, false, false] (by kernel_rfl) rfl rfl ⟨(blk_cell BK365.out 0).trans rfl, (blk_cell BK365.out 1).trans rfl, (blk_cell BK367.out 0).trans rfl, (blk_cell BK367.out 1).trans rfl⟩ (fun hHeld => ?_); refine with_tabW dropperref06_Turned.tab8 dropperref06_Turned.bits8 (fun HT_ HW_ => ?_)
         generalize w28.drew = w29 at HO_366001 BK362 BK363 BK365 BK367 HB hHeld ⊢
         refine pst (i := 0) (N := some 26) (bz 15 1) (any_of HT_.out (by kernel_rfl)) ?_
         refine pst (i := 3) (N := some 29) (bz 15 9) (any_of HT_.out (by kernel_rfl)) ?_
         refine pst (i := 7) (N := some 33) (bz 15 137) (any_of HT_.out (by kernel_rfl)) ?_
         refine tst4 (i := 1) (N := some 27) (bz 15 139) (take_ofW HT_.out HW_.out (by kernel_rfl)) hHeld ?_
         refine tst4 (i := 4) (N := some 30) (bz 15 155) (take_ofW HT_.out HW_.out (by kernel_rfl)) hHeld ?_
         refine tst4 (i := 8) (N := some 34) (bz 15 411) (take_ofW HT_.out HW_.out (by kernel_rfl)) hHeld ?_
         refine join_ (σ := Value × Value × Value) 6 #[true, true, true, true, true, true, true, true, true, false, false, false, false, false, false] (fun s_ => [(28, s_.1), (31, s_.2.1), (32, s_.2.2)]) (fun s_ w' => (w'.cell? ⟨gb365, 0, none⟩ = some (.int .i64 a0_0) ∧ w'.cell? ⟨gb365, 1, none⟩ = some (.slice Ao27 x366001_1.length co27) ∧ w'.cell? ⟨gb367, 0, none⟩ = some (.slice A366_0 ((rd_T64 l0_1 x5_1).f0).length c366_0) ∧ w'.cell? ⟨gb367, 1, none⟩ = some (.slice A366_1 ((rd_T64 l0_1 x5_1).f1).length c366_1)) ∧ (Kd.R (Kd.int .i64) 3 w' w.heap.size (fun k_ => some k_ ≠ (s_.2.2 : Value).ownBlock) s_.2.1 y371) ∧ (Kd.R (Kd.int .i64) 3 w' w.heap.size (fun k_ => some k_ ≠ (s_.2.1 : Value).ownBlock) s_.2.2 y374) ∧ (Kd.S k64 64 w' w.heap.size (fun k_ => some k_ ≠ (s_.2.1 : Value).ownBlock ∧ some k_ ≠ (s_.2.2 : Value).ownBlock ∧ k_ ≠ gb367) (.slice Ao27 x366001_1.length co27) x366001_1) ∧ (w'.heap[gb362]? = some (.cells #[.int .i64 a0_0, .slice (some ad366) l0_1.length c0_1] 24 (0, 0))) ∧ (w'.heap[gb363]? = some (.cells #[.int .i64 0, .slice none 0 0] 24 (0, 0))) ∧ (w'.heap[gb365]? = some (.cells #[.int .i64 a0_0, .slice Ao27 x366001_1.length co27] 24 (0, 0))) ∧ (w'.heap[gb367]? = some (.cells #[.slice A366_0 ((rd_T64 l0_1 x5_1).f0).length c366_0, .slice A366_1 ((rd_T64 l0_1 x5_1).f1).length c366_1] 64 (0, 0))) ∧ (Below w.heap.size w w')) ?_ ?_
         rotate_left
         ·
          intro hCont
          refine two_ (i := 2) (j := 6) (Ni := some 28) (Nj := some 32) #[true, true, true, true, true, false, false, true, true, false, false, false, false, false, false] #[true, true, false, true, true, false, true, true, true, false, false, false, false, false, false] rfl rfl rfl rfl (two_of HT_.out (by kernel_rfl)) (by decide) (by decide) (fun K hK => ?_) (fun K hK => ?_)
          ·
           skip
           refine Kd.R_lit_step (Kd.int .i64) _ 3 ?hg (N := 28) ?hd (xs := ([] : List Int)) (inner := []) (ok := fun _ => True) (okp := fun _ => True) ?hr ?hp (fun _ hk => hk) trivial (Below.refl _ _) (Nat.le_refl _) (by simp) ?_; (case hd => rfl); (case hg => rfl); (case hr => first | (go_simp; done) | (go_simp; rfl)); (case hp => exact (Reps.none _ _))
           intro v369 w30 ho31 hb hg_ hnew_
           clear hg_ hnew_
           (first | rw [← Ny368.out] at ho31 | (simp only [Int.reduceToNat] at ho31; rw [← Ny368.out] at ho31))
           have n0_ := Aside0.mk (Kd.S_elder' (by (with_reducible repeat (first | apply Kd.S_alloc | apply Kd.S_drewN | apply Kd.S_drew)); exact HO_366001.out) (Kd.R_base ho31) hb)
           have n1_ := Aside0.mk (Kd.R_lower ho31 (below_size bel))
           have n2_ := Aside0.mk (blk_below (g := gb362) blkz hb)
           have n3_ := Aside0.mk (blk_below (g := gb363) blkz hb)
           have n4_ := Aside0.mk (blk_below (g := gb365) blkz hb)
           have n5_ := Aside0.mk (blk_below (g := gb367) blkz hb)
           have n6_ := Aside0.mk (below_step bel hb)
           clear HO_366001
           clear BK362
           clear BK363
           clear BK365
           clear BK367
           clear HB
           have HO_366001 := n0_
           have HO370 := n1_
           have BK362 := n2_
           have BK363 := n3_
           have BK365 := n4_
           have BK367 := n5_
           have HB := n6_
           clear n0_ n1_ n2_ n3_ n4_ n5_ n6_
           clear hb ho31
           refine hK.out _ _ ⟨(blk_cell BK365.out 0).trans rfl, (blk_cell BK365.out 1).trans rfl, (blk_cell BK367.out 0).trans rfl, (blk_cell BK367.out 1).trans rfl⟩ (fun hHeld => ?_)
           clear hK K
           refine norm_ (a' := ?_) ?_ ?_
           rotate_left
           ·
            show Act.put _ (some 28) _ = _
            simp only [Act.put, List.setIfInBounds_toArray, List.set_cons_zero, List.set_cons_succ, i64_w, i32_w]
            rfl
           refine two_ (i := 5) (j := 6) (Ni := some 31) (Nj := some 32) #[true, true, true, true, true, true, false, true, true, false, false, false, false, false, false] #[true, true, true, true, true, false, true, true, true, false, false, false, false, false, false] rfl rfl rfl rfl (two_of HT_.out (by kernel_rfl)) (by decide) (by decide) (fun K hK => ?_) (fun K hK => ?_)
           ·
            skip
            refine Kd.R_append_rows_step (Kd.int .i64) (w0 := w) w.heap.size (by rfl) (.tmp 28) (.tmp 30) 25 3 (.int .i64 0) 8 rfl Try.underlying25 info3 rfl (by decide) (by omega) v369 y368 ((rd_T64 l0_1 x5_1).f1) _ _ _ (fun _ => True) (fun _ => False) rfl rfl ?aO ?aR (fun _ _ h => h) (fun _ h => h.elim) ?aF ?aB ?aS ?aL ?_
            (case aR => exact cbz HR366_1)
            (case aB => exact bel)
            (case aF => exact (fun _ _ => trivial))
            (case aO => exact (ownx HO370))
            (case aS => exact (below_size bel))
            (case aL => have := LMc16.out; omega)
            intro v372 w32 ho hb hg hat
            rw [← Ny371.out] at ho
            have n0_ := Aside0.mk (Kd.S_after (ok := (fun k_ => k_ ≠ gb367)) (by (with_reducible repeat (first | apply Kd.S_alloc | apply Kd.S_drewN | apply Kd.S_drew)); exact HO_366001.out) hg hat)
            have n1_ := Aside0.mk (blk_grown (g := gb362) (o := .cells #[.int .i64 a0_0, .slice (some ad366) l0_1.length c0_1] 24 (0, 0)) blkz hg (Kd.R_ne HO370.out BK362.out (by decide)))
            have n2_ := Aside0.mk (blk_grown (g := gb363) (o := .cells #[.int .i64 0, .slice none 0 0] 24 (0, 0)) blkz hg (Kd.R_ne HO370.out BK363.out (by decide)))
            have n3_ := Aside0.mk (blk_grown (g := gb365) (o := .cells #[.int .i64 a0_0, .slice Ao27 x366001_1.length co27] 24 (0, 0)) blkz hg (Kd.R_ne HO370.out BK365.out (by decide)))
            have n4_ := Aside0.mk (blk_grown (g := gb367) (o := .cells #[.slice A366_0 ((rd_T64 l0_1 x5_1).f0).length c366_0, .slice A366_1 ((rd_T64 l0_1 x5_1).f1).length c366_1] 64 (0, 0)) blkz hg (Kd.R_ne HO370.out BK367.out (by decide)))
            have n5_ := Aside0.mk (hb)
            have n6_ := Aside0.mk (ho)
            clear HO_366001
            clear BK362
            clear BK363
            clear BK365
            clear BK367
            clear HB
            clear HO370
            have HO_366001 := n0_
            have BK362 := n1_
            have BK363 := n2_
            have BK365 := n3_
            have BK367 := n4_
            have HB := n5_
            have HO373 := n6_
            clear n0_ n1_ n2_ n3_ n4_ n5_ n6_
            clear ho hb hg hat
            refine hK.out _ _ ⟨(blk_cell BK365.out 0).trans rfl, (blk_cell BK365.out 1).trans rfl, (blk_cell BK367.out 0).trans rfl, (blk_cell BK367.out 1).trans rfl⟩ (fun hHeld => ?_)
            clear hK K
            refine norm_ (a' := ?_) ?_ ?_
            rotate_left
            ·
             show Act.put _ (some 31) _ = _
             simp only [Act.put, List.setIfInBounds_toArray, List.set_cons_zero, List.set_cons_succ, i64_w, i32_w]
             rfl
            refine one_ (i := 6) (N := some 32) #[true, true, true, true, true, true, true, true, true, false, false, false, false, false, false] rfl rfl (one_of HT_.out (by kernel_rfl)) (by decide) (fun K hK => ?_)
            refine Kd.R_lit_step (Kd.int .i64) _ 3 ?hg (N := 32) ?hd (xs := ([] : List Int)) (inner := []) (ok := fun _ => True) (okp := fun _ => True) ?hr ?hp (fun _ hk => hk) trivial (Below.refl _ _) (Nat.le_refl _) (by simp) ?_; (case hd => rfl); (case hg => rfl); (case hr => first | (go_simp; done) | (go_simp; rfl)); (case hp => exact (Reps.none _ _))
            intro v375 w33 ho34 hb hg_ hnew_
            clear hg_ hnew_
            (first | rw [← Ny374.out] at ho34 | (simp only [Int.reduceToNat] at ho34; rw [← Ny374.out] at ho34))
            have n0_ := Aside0.mk (Kd.S_elder' (by (with_reducible repeat (first | apply Kd.S_alloc | apply Kd.S_drewN | apply Kd.S_drew)); exact HO_366001.out) (Kd.R_base ho34) hb)
            have n1_ := Aside0.mk (Kd.R_elder' (ownx HO373) (Kd.R_base ho34) hb)
            have n2_ := Aside0.mk (Kd.R_lower (Kd.R_new' ho34 (Kd.R_lt (ownx HO373))) (below_size bel))
            have n3_ := Aside0.mk (blk_below (g := gb362) blkz hb)
            have n4_ := Aside0.mk (blk_below (g := gb363) blkz hb)
            have n5_ := Aside0.mk (blk_below (g := gb365) blkz hb)
            have n6_ := Aside0.mk (blk_below (g := gb367) blkz hb)
            have n7_ := Aside0.mk (below_step bel hb)
            clear HO_366001
            clear HO373
            clear BK362
            clear BK363
            clear BK365
            clear BK367
            clear HB
            have HO_366001 := n0_
            have HO373 := n1_
            have HO376 := n2_
            have BK362 := n3_
            have BK363 := n4_
            have BK365 := n5_
            have BK367 := n6_
            have HB := n7_
            clear n0_ n1_ n2_ n3_ n4_ n5_ n6_ n7_
            clear hb ho34
            refine hK.out _ _ ⟨(blk_cell BK365.out 0).trans rfl, (blk_cell BK365.out 1).trans rfl, (blk_cell BK367.out 0).trans rfl, (blk_cell BK367.out 1).trans rfl⟩ (fun hHeld => ?_)
            clear hK K
            refine norm_ (a' := ?_) ?_ ?_
            rotate_left
            ·
             show Act.put _ (some 32) _ = _
             simp only [Act.put, List.setIfInBounds_toArray, List.set_cons_zero, List.set_cons_succ, i64_w, i32_w]
             rfl
            exact norm_ (by simp only [putAll, Act.put, List.setIfInBounds_toArray, List.set_cons_zero, List.set_cons_succ]) (hCont (v369, v372, v375) _ ⟨hHeld, (by (with_reducible repeat (first | apply Kd.R_alloc | apply Kd.R_drewN | apply Kd.R_drew)); exact Kd.R_mono HO373.out (fun _ hk => hk.2)), (by (with_reducible repeat (first | apply Kd.R_alloc | apply Kd.R_drewN | apply Kd.R_drew)); exact Kd.R_mono HO376.out (fun _ hk => hk.2)), (by (with_reducible repeat (first | apply Kd.S_alloc | apply Kd.S_drewN | apply Kd.S_drew)); exact Kd.S_mono HO_366001.out (fun _ hk => ⟨hk.1.2, ⟨hk.2, hk.1.1⟩⟩)), blkz, blkz, blkz, blkz, bel⟩)
           ·
            skip
            refine Kd.R_lit_step (Kd.int .i64) _ 3 ?hg (N := 32) ?hd (xs := ([] : List Int)) (inner := []) (ok := fun _ => True) (okp := fun _ => True) ?hr ?hp (fun _ hk => hk) trivial (Below.refl _ _) (Nat.le_refl _) (by simp) ?_; (case hd => rfl); (case hg => rfl); (case hr => first | (go_simp; done) | (go_simp; rfl)); (case hp => exact (Reps.none _ _))
            intro v375 w32 ho33 hb hg_ hnew_
            clear hg_ hnew_
            (first | rw [← Ny374.out] at ho33 | (simp only [Int.reduceToNat] at ho33; rw [← Ny374.out] at ho33))
            have n0_ := Aside0.mk (Kd.S_elder' (by (with_reducible repeat (first | apply Kd.S_alloc | apply Kd.S_drewN | apply Kd.S_drew)); exact HO_366001.out) (Kd.R_base ho33) hb)
            have n1_ := Aside0.mk (Kd.R_elder' (ownx HO370) (Kd.R_base ho33) hb)
            have n2_ := Aside0.mk (Kd.R_lower (Kd.R_new' ho33 (Kd.R_lt (ownx HO370))) (below_size bel))
            have n3_ := Aside0.mk (blk_below (g := gb362) blkz hb)
            have n4_ := Aside0.mk (blk_below (g := gb363) blkz hb)
            have n5_ := Aside0.mk (blk_below (g := gb365) blkz hb)
            have n6_ := Aside0.mk (blk_below (g := gb367) blkz hb)
            have n7_ := Aside0.mk (below_step bel hb)
            clear HO_366001
            clear HO370
            clear BK362
            clear BK363
            clear BK365
            clear BK367
            clear HB
            have HO_366001 := n0_
            have HO370 := n1_
            have HO376 := n2_
            have BK362 := n3_
            have BK363 := n4_
            have BK365 := n5_
            have BK367 := n6_
            have HB := n7_
            clear n0_ n1_ n2_ n3_ n4_ n5_ n6_ n7_
            clear hb ho33
            refine hK.out _ _ ⟨(blk_cell BK365.out 0).trans rfl, (blk_cell BK365.out 1).trans rfl, (blk_cell BK367.out 0).trans rfl, (blk_cell BK367.out 1).trans rfl⟩ (fun hHeld => ?_)
            clear hK K
            refine norm_ (a' := ?_) ?_ ?_
            rotate_left
            ·
             show Act.put _ (some 32) _ = _
             simp only [Act.put, List.setIfInBounds_toArray, List.set_cons_zero, List.set_cons_succ, i64_w, i32_w]
             rfl
            refine one_ (i := 5) (N := some 31) #[true, true, true, true, true, true, true, true, true, false, false, false, false, false, false] rfl rfl (one_of HT_.out (by kernel_rfl)) (by decide) (fun K hK => ?_)
            refine Kd.R_append_rows_step (Kd.int .i64) (w0 := w) w.heap.size (by rfl) (.tmp 28) (.tmp 30) 25 3 (.int .i64 0) 8 rfl Try.underlying25 info3 rfl (by decide) (by omega) v369 y368 ((rd_T64 l0_1 x5_1).f1) _ _ _ (fun k_ => some k_ ≠ (v375 : Value).ownBlock) (fun _ => False) rfl rfl ?aO ?aR (fun _ _ h => h) (fun _ h => h.elim) ?aF ?aB ?aS ?aL ?_
            (case aR => exact cbz HR366_1)
            (case aB => exact bel)
            (case aF => exact (fun k_ hk => Kd.fresh' (Kd.R_lt (ownx HO376)) k_ hk))
            (case aO => exact (by (with_reducible repeat (first | apply Kd.R_alloc | apply Kd.R_drewN | apply Kd.R_drew)); exact Kd.R_mono HO370.out (fun _ hk => hk.2)))
            (case aS => exact (below_size bel))
            (case aL => have := LMc16.out; omega)
            intro v372 w34 ho hb hg hat
            rw [← Ny371.out] at ho
            have n0_ := Aside0.mk (Kd.S_after (ok := (fun k_ => some k_ ≠ (v375 : Value).ownBlock ∧ k_ ≠ gb367)) (by (with_reducible repeat (first | apply Kd.S_alloc | apply Kd.S_drewN | apply Kd.S_drew)); exact Kd.S_mono HO_366001.out (fun _ hk => ⟨⟨hk.2, hk.1.1⟩, hk.1.2⟩)) hg hat)
            have n1_ := Aside0.mk (blk_grown (g := gb362) (o := .cells #[.int .i64 a0_0, .slice (some ad366) l0_1.length c0_1] 24 (0, 0)) blkz hg (Kd.R_ne HO370.out BK362.out (by decide)))
            have n2_ := Aside0.mk (blk_grown (g := gb363) (o := .cells #[.int .i64 0, .slice none 0 0] 24 (0, 0)) blkz hg (Kd.R_ne HO370.out BK363.out (by decide)))
            have n3_ := Aside0.mk (blk_grown (g := gb365) (o := .cells #[.int .i64 a0_0, .slice Ao27 x366001_1.length co27] 24 (0, 0)) blkz hg (Kd.R_ne HO370.out BK365.out (by decide)))
            have n4_ := Aside0.mk (blk_grown (g := gb367) (o := .cells #[.slice A366_0 ((rd_T64 l0_1 x5_1).f0).length c366_0, .slice A366_1 ((rd_T64 l0_1 x5_1).f1).length c366_1] 64 (0, 0)) blkz hg (Kd.R_ne HO370.out BK367.out (by decide)))
            have n5_ := Aside0.mk (Kd.R_after (ok := (fun _ => True)) (ownx HO376) hg hat)
            have n6_ := Aside0.mk (hb)
            have n7_ := Aside0.mk (ho)
            clear HO_366001
            clear BK362
            clear BK363
            clear BK365
            clear BK367
            clear HO376
            clear HB
            clear HO370
            have HO_366001 := n0_
            have BK362 := n1_
            have BK363 := n2_
            have BK365 := n3_
            have BK367 := n4_
            have HO376 := n5_
            have HB := n6_
            have HO373 := n7_
            clear n0_ n1_ n2_ n3_ n4_ n5_ n6_ n7_
            clear ho hb hg hat
            refine hK.out _ _ ⟨(blk_cell BK365.out 0).trans rfl, (blk_cell BK365.out 1).trans rfl, (blk_cell BK367.out 0).trans rfl, (blk_cell BK367.out 1).trans rfl⟩ (fun hHeld => ?_)
            clear hK K
            refine norm_ (a' := ?_) ?_ ?_
            rotate_left
            ·
             show Act.put _ (some 31) _ = _
             simp only [Act.put, List.setIfInBounds_toArray, List.set_cons_zero, List.set_cons_succ, i64_w, i32_w]
             rfl
            exact norm_ (by simp only [putAll, Act.put, List.setIfInBounds_toArray, List.set_cons_zero, List.set_cons_succ]) (hCont (v369, v372, v375) _ ⟨hHeld, (ownx HO373), (by (with_reducible repeat (first | apply Kd.R_alloc | apply Kd.R_drewN | apply Kd.R_drew)); exact Kd.R_mono HO376.out (fun _ hk => hk.2)), (by (with_reducible repeat (first | apply Kd.S_alloc | apply Kd.S_drewN | apply Kd.S_drew)); exact Kd.S_mono HO_366001.out (fun _ hk => ⟨hk.2, ⟨hk.1.1, hk.1.2⟩⟩)), blkz, blkz, blkz, blkz, bel⟩)
          ·
           skip
           refine Kd.R_lit_step (Kd.int .i64) _ 3 ?hg (N := 32) ?hd (xs := ([] : List Int)) (inner := []) (ok := fun _ => True) (okp := fun _ => True) ?hr ?hp (fun _ hk => hk) trivial (Below.refl _ _) (Nat.le_refl _) (by simp) ?_; (case hd => rfl); (case hg => rfl); (case hr => first | (go_simp; done) | (go_simp; rfl)); (case hp => exact (Reps.none _ _))
           intro v375 w30 ho31 hb hg_ hnew_
           clear hg_ hnew_
           (first | rw [← Ny374.out] at ho31 | (simp only [Int.reduceToNat] at ho31; rw [← Ny374.out] at ho31))
           have n0_ := Aside0.mk (Kd.S_elder' (by (with_reducible repeat (first | apply Kd.S_alloc | apply Kd.S_drewN | apply Kd.S_drew)); exact HO_366001.out) (Kd.R_base ho31) hb)
           have n1_ := Aside0.mk (Kd.R_lower ho31 (below_size bel))
           have n2_ := Aside0.mk (blk_below (g := gb362) blkz hb)
           have n3_ := Aside0.mk (blk_below (g := gb363) blkz hb)
           have n4_ := Aside0.mk (blk_below (g := gb365) blkz hb)
           have n5_ := Aside0.mk (blk_below (g := gb367) blkz hb)
           have n6_ := Aside0.mk (below_step bel hb)
           clear HO_366001
           clear BK362
           clear BK363
           clear BK365
           clear BK367
           clear HB
           have HO_366001 := n0_
           have HO376 := n1_
           have BK362 := n2_
           have BK363 := n3_
           have BK365 := n4_
           have BK367 := n5_
           have HB := n6_
           clear n0_ n1_ n2_ n3_ n4_ n5_ n6_
           clear hb ho31
           refine hK.out _ _ ⟨(blk_cell BK365.out 0).trans rfl, (blk_cell BK365.out 1).trans rfl, (blk_cell BK367.out 0).trans rfl, (blk_cell BK367.out 1).trans rfl⟩ (fun hHeld => ?_)
           clear hK K
           refine norm_ (a' := ?_) ?_ ?_
           rotate_left
           ·
            show Act.put _ (some 32) _ = _
            simp only [Act.put, List.setIfInBounds_toArray, List.set_cons_zero, List.set_cons_succ, i64_w, i32_w]
            rfl
           refine one_ (i := 2) (N := some 28) #[true, true, true, true, true, false, true, true, true, false, false, false, false, false, false] rfl rfl (one_of HT_.out (by kernel_rfl)) (by decide) (fun K hK => ?_)
           refine Kd.R_lit_step (Kd.int .i64) _ 3 ?hg (N := 28) ?hd (xs := ([] : List Int)) (inner := []) (ok := fun _ => True) (okp := fun _ => True) ?hr ?hp (fun _ hk => hk) trivial (Below.refl _ _) (Nat.le_refl _) (by simp) ?_; (case hd => rfl); (case hg => rfl); (case hr => first | (go_simp; done) | (go_simp; rfl)); (case hp => exact (Reps.none _ _))
           intro v369 w32 ho33 hb hg_ hnew_
           clear hg_ hnew_
           (first | rw [← Ny368.out] at ho33 | (simp only [Int.reduceToNat] at ho33; rw [← Ny368.out] at ho33))
           have n0_ := Aside0.mk (Kd.S_elder' (by (with_reducible repeat (first | apply Kd.S_alloc | apply Kd.S_drewN | apply Kd.S_drew)); exact HO_366001.out) (Kd.R_base ho33) hb)
           have n1_ := Aside0.mk (Kd.R_elder' (ownx HO376) (Kd.R_base ho33) hb)
           have n2_ := Aside0.mk (Kd.R_lower (Kd.R_new' ho33 (Kd.R_lt (ownx HO376))) (below_size bel))
           have n3_ := Aside0.mk (blk_below (g := gb362) blkz hb)
           have n4_ := Aside0.mk (blk_below (g := gb363) blkz hb)
           have n5_ := Aside0.mk (blk_below (g := gb365) blkz hb)
           have n6_ := Aside0.mk (blk_below (g := gb367) blkz hb)
           have n7_ := Aside0.mk (below_step bel hb)
           clear HO_366001
           clear HO376
           clear BK362
           clear BK363
           clear BK365
           clear BK367
           clear HB
           have HO_366001 := n0_
           have HO376 := n1_
           have HO370 := n2_
           have BK362 := n3_
           have BK363 := n4_
           have BK365 := n5_
           have BK367 := n6_
           have HB := n7_
           clear n0_ n1_ n2_ n3_ n4_ n5_ n6_ n7_
           clear hb ho33
           refine hK.out _ _ ⟨(blk_cell BK365.out 0).trans rfl, (blk_cell BK365.out 1).trans rfl, (blk_cell BK367.out 0).trans rfl, (blk_cell BK367.out 1).trans rfl⟩ (fun hHeld => ?_)
           clear hK K
           refine norm_ (a' := ?_) ?_ ?_
           rotate_left
           ·
            show Act.put _ (some 28) _ = _
            simp only [Act.put, List.setIfInBounds_toArray, List.set_cons_zero, List.set_cons_succ, i64_w, i32_w]
            rfl
           refine one_ (i := 5) (N := some 31) #[true, true, true, true, true, true, true, true, true, false, false, false, false, false, false] rfl rfl (one_of HT_.out (by kernel_rfl)) (by decide) (fun K hK => ?_)
           refine Kd.R_append_rows_step (Kd.int .i64) (w0 := w) w.heap.size (by rfl) (.tmp 28) (.tmp 30) 25 3 (.int .i64 0) 8 rfl Try.underlying25 info3 rfl (by decide) (by omega) v369 y368 ((rd_T64 l0_1 x5_1).f1) _ _ _ (fun k_ => some k_ ≠ (v375 : Value).ownBlock) (fun _ => False) rfl rfl ?aO ?aR (fun _ _ h => h) (fun _ h => h.elim) ?aF ?aB ?aS ?aL ?_
           (case aR => exact cbz HR366_1)
           (case aB => exact bel)
           (case aF => exact (fun k_ hk => Kd.fresh' (Kd.R_lt (ownx HO376)) k_ hk))
           (case aO => exact (by (with_reducible repeat (first | apply Kd.R_alloc | apply Kd.R_drewN | apply Kd.R_drew)); exact Kd.R_mono HO370.out (fun _ hk => hk.2)))
           (case aS => exact (below_size bel))
           (case aL => have := LMc16.out; omega)
           intro v372 w34 ho hb hg hat
           rw [← Ny371.out] at ho
           have n0_ := Aside0.mk (Kd.S_after (ok := (fun k_ => some k_ ≠ (v375 : Value).ownBlock ∧ k_ ≠ gb367)) (by (with_reducible repeat (first | apply Kd.S_alloc | apply Kd.S_drewN | apply Kd.S_drew)); exact Kd.S_mono HO_366001.out (fun _ hk => ⟨⟨hk.1.2, hk.1.1⟩, hk.2⟩)) hg hat)
           have n1_ := Aside0.mk (blk_grown (g := gb362) (o := .cells #[.int .i64 a0_0, .slice (some ad366) l0_1.length c0_1] 24 (0, 0)) blkz hg (Kd.R_ne HO370.out BK362.out (by decide)))
           have n2_ := Aside0.mk (blk_grown (g := gb363) (o := .cells #[.int .i64 0, .slice none 0 0] 24 (0, 0)) blkz hg (Kd.R_ne HO370.out BK363.out (by decide)))
           have n3_ := Aside0.mk (blk_grown (g := gb365) (o := .cells #[.int .i64 a0_0, .slice Ao27 x366001_1.length co27] 24 (0, 0)) blkz hg (Kd.R_ne HO370.out BK365.out (by decide)))
           have n4_ := Aside0.mk (blk_grown (g := gb367) (o := .cells #[.slice A366_0 ((rd_T64 l0_1 x5_1).f0).length c366_0, .slice A366_1 ((rd_T64 l0_1 x5_1).f1).length c366_1] 64 (0, 0)) blkz hg (Kd.R_ne HO370.out BK367.out (by decide)))
           have n5_ := Aside0.mk (Kd.R_after (ok := (fun _ => True)) (ownx HO376) hg hat)
           have n6_ := Aside0.mk (hb)
           have n7_ := Aside0.mk (ho)
           clear HO_366001
           clear BK362
           clear BK363
           clear BK365
           clear BK367
           clear HO376
           clear HB
           clear HO370
           have HO_366001 := n0_
           have BK362 := n1_
           have BK363 := n2_
           have BK365 := n3_
           have BK367 := n4_
           have HO376 := n5_
           have HB := n6_
           have HO373 := n7_
           clear n0_ n1_ n2_ n3_ n4_ n5_ n6_ n7_
           clear ho hb hg hat
           refine hK.out _ _ ⟨(blk_cell BK365.out 0).trans rfl, (blk_cell BK365.out 1).trans rfl, (blk_cell BK367.out 0).trans rfl, (blk_cell BK367.out 1).trans rfl⟩ (fun hHeld => ?_)
           clear hK K
           refine norm_ (a' := ?_) ?_ ?_
           rotate_left
           ·
            show Act.put _ (some 31) _ = _
            simp only [Act.put, List.setIfInBounds_toArray, List.set_cons_zero, List.set_cons_succ, i64_w, i32_w]
            rfl
           exact norm_ (by simp only [putAll, Act.put, List.setIfInBounds_toArray, List.set_cons_zero, List.set_cons_succ]) (hCont (v369, v372, v375) _ ⟨hHeld, (ownx HO373), (by (with_reducible repeat (first | apply Kd.R_alloc | apply Kd.R_drewN | apply Kd.R_drew)); exact Kd.R_mono HO376.out (fun _ hk => hk.2)), (by (with_reducible repeat (first | apply Kd.S_alloc | apply Kd.S_drewN | apply Kd.S_drew)); exact Kd.S_mono HO_366001.out (fun _ hk => ⟨hk.2, ⟨hk.1.1, hk.1.2⟩⟩)), blkz, blkz, blkz, blkz, bel⟩)
         rintro ⟨v369, v372, v375⟩ w35 ⟨hS_, h0_, h1_, h2_, h3_, h4_, h5_, h6_, h7_⟩
         have n0_ : Aside0 (Kd.R (Kd.int .i64) 3 w35 w.heap.size (fun k_ => some k_ ≠ (v375 : Value).ownBlock) v372 y371) := ⟨h0_⟩
         have n1_ : Aside0 (Kd.R (Kd.int .i64) 3 w35 w.heap.size (fun k_ => some k_ ≠ (v372 : Value).ownBlock) v375 y374) := ⟨h1_⟩
         have n2_ : Aside0 (Kd.S k64 64 w35 w.heap.size (fun k_ => some k_ ≠ (v372 : Value).ownBlock ∧ some k_ ≠ (v375 : Value).ownBlock ∧ k_ ≠ gb367) (.slice Ao27 x366001_1.length co27) x366001_1) := ⟨h2_⟩
         have n3_ : Aside0 (w35.heap[gb362]? = some (.cells #[.int .i64 a0_0, .slice (some ad366) l0_1.length c0_1] 24 (0, 0))) := ⟨h3_⟩
         have n4_ : Aside0 (w35.heap[gb363]? = some (.cells #[.int .i64 0, .slice none 0 0] 24 (0, 0))) := ⟨h4_⟩
         have n5_ : Aside0 (w35.heap[gb365]? = some (.cells #[.int .i64 a0_0, .slice Ao27 x366001_1.length co27] 24 (0, 0))) := ⟨h5_⟩
         have n6_ : Aside0 (w35.heap[gb367]? = some (.cells #[.slice A366_0 ((rd_T64 l0_1 x5_1).f0).length c366_0, .slice A366_1 ((rd_T64 l0_1 x5_1).f1).length c366_1] 64 (0, 0))) := ⟨h6_⟩
         have n7_ : Aside0 (Below w.heap.size w w35) := ⟨h7_⟩
         clear HO_366001
         clear BK362
         clear BK363
         clear BK365
         clear BK367
         clear HB
         clear h0_ h1_ h2_ h3_ h4_ h5_ h6_ h7_
         have HO373 := n0_
         have HO376 := n1_
         have HO_366001 := n2_
         have BK362 := n3_
         have BK363 := n4_
         have BK365 := n5_
         have BK367 := n6_
         have HB := n7_
         clear n0_ n1_ n2_ n3_ n4_ n5_ n6_ n7_
         have hHeld : w35.cell? ⟨gb365, 0, none⟩ = some (.int .i64 a0_0) ∧ w35.cell? ⟨gb365, 1, none⟩ = some (.slice Ao27 x366001_1.length co27) ∧ w35.cell? ⟨gb367, 0, none⟩ = some (.slice A366_0 ((rd_T64 l0_1 x5_1).f0).length c366_0) ∧ w35.cell? ⟨gb367, 1, none⟩ = some (.slice A366_1 ((rd_T64 l0_1 x5_1).f1).length c366_1) := hS_
         refine norm_ (a' := ?_) ?_ ?_
         rotate_left
         ·
          simp only [putAll, Act.put, List.setIfInBounds_toArray, List.set_cons_zero, List.set_cons_succ]
          rfl
         refine one_ (i := 9) (N := some 35) #[true, true, true, true, true, true, true, true, true, true, false, false, false, false, false] rfl rfl (one_of HT_.out (by kernel_rfl)) (by decide) (fun K hK => ?_)
         refine Kd.R_append_rows_step (Kd.int .i64) (w0 := w) w.heap.size (by rfl) (.tmp 32) (.tmp 34) 25 3 (.int .i64 0) 8 rfl Try.underlying25 info3 rfl (by decide) (by omega) v375 y374 ((rd_T64 l0_1 x5_1).f0) _ _ _ (fun k_ => some k_ ≠ (v372 : Value).ownBlock) (fun _ => False) rfl rfl ?aO ?aR (fun _ _ h => h) (fun _ h => h.elim) ?aF ?aB ?aS ?aL ?_
         (case aR => exact cbz HR366_0)
         (case aB => exact bel)
         (case aF => exact (fun k_ hk => Kd.fresh' (Kd.R_lt (ownx HO373)) k_ hk))
         (case aO => exact (ownx HO376))
         (case aS => exact (below_size bel))
         (case aL => have := LMc17.out; omega)
         intro v378 w36 ho hb hg hat
         rw [← Ny377.out] at ho
         have n0_ := Aside0.mk (Kd.S_after (ok := (fun k_ => some k_ ≠ (v372 : Value).ownBlock ∧ k_ ≠ gb367)) (by (with_reducible repeat (first | apply Kd.S_alloc | apply Kd.S_drewN | apply Kd.S_drew)); exact Kd.S_mono HO_366001.out (fun _ hk => ⟨⟨hk.1, hk.2.2⟩, hk.2.1⟩)) hg hat)
         have n1_ := Aside0.mk (blk_grown (g := gb362) (o := .cells #[.int .i64 a0_0, .slice (some ad366) l0_1.length c0_1] 24 (0, 0)) blkz hg (Kd.R_ne HO376.out BK362.out (by decide)))
         have n2_ := Aside0.mk (blk_grown (g := gb363) (o := .cells #[.int .i64 0, .slice none 0 0] 24 (0, 0)) blkz hg (Kd.R_ne HO376.out BK363.out (by decide)))
         have n3_ := Aside0.mk (blk_grown (g := gb365) (o := .cells #[.int .i64 a0_0, .slice Ao27 x366001_1.length co27] 24 (0, 0)) blkz hg (Kd.R_ne HO376.out BK365.out (by decide)))
         have n4_ := Aside0.mk (blk_grown (g := gb367) (o := .cells #[.slice A366_0 ((rd_T64 l0_1 x5_1).f0).length c366_0, .slice A366_1 ((rd_T64 l0_1 x5_1).f1).length c366_1] 64 (0, 0)) blkz hg (Kd.R_ne HO376.out BK367.out (by decide)))
         have n5_ := Aside0.mk (Kd.R_after (ok := (fun _ => True)) (by (with_reducible repeat (first | apply Kd.R_alloc | apply Kd.R_drewN | apply Kd.R_drew)); exact Kd.R_mono HO373.out (fun _ hk => ⟨trivial, hk⟩)) hg hat)
         have n6_ := Aside0.mk (hb)
         have n7_ := Aside0.mk (ho)
         clear HO_366001
         clear BK362
         clear BK363
         clear BK365
         clear BK367
         clear HO373
         clear HB
         clear HO376
         have HO_366001 := n0_
         have BK362 := n1_
         have BK363 := n2_
         have BK365 := n3_
         have BK367 := n4_
         have HO373 := n5_
         have HB := n6_
         have HO379 := n7_
         clear n0_ n1_ n2_ n3_ n4_ n5_ n6_ n7_
         clear ho hb hg hat
         obtain ⟨Ao37, co37, eo37⟩ := Kd.R_slice HO379.out
         (first | subst eo37 | (injection eo37 with f1_ f2_ f3_; have f4_ := f1_.symm; have f5_ := f3_.symm; clear f1_ f2_ f3_; subst f4_; subst f5_))
         obtain ⟨Ao38, co38, eo38⟩ := Kd.R_slice HO373.out
         (first | subst eo38 | (injection eo38 with f1_ f2_ f3_; have f4_ := f1_.symm; have f5_ := f3_.symm; clear f1_ f2_ f3_; subst f4_; subst f5_))
         refine hK.out _ _ ⟨(blk_cell BK365.out 0).trans rfl, (blk_cell BK365.out 1).trans rfl, (blk_cell BK367.out 0).trans rfl, (blk_cell BK367.out 1).trans rfl⟩ (fun hHeld => ?_)
         clear hK K
         refine norm_ (a' := ?_) ?_ ?_
         rotate_left
         ·
          show Act.put _ (some 35) _ = _
          simp only [Act.put, List.setIfInBounds_toArray, List.set_cons_zero, List.set_cons_succ, i64_w, i32_w]
          rfl
         refine pst (i := 10) (N := some 36) (bz 15 2047) (any_of HT_.out (by kernel_rfl)) ?_
         refine one_ (i := 11) (N := some 37) #[true, true, true, true, true, true, true, true, true, true, true, true, false, false, false] rfl rfl (one_of HT_.out (by kernel_rfl)) (by decide) (fun K hK => ?_)
         refine value_ (w1 := ?_) (v := ?_) (by rfl) rfl ?_ ?_
         rotate_left 2
         ·
          go_simp
          constructor
          ·
           rfl
          ·
           rfl
         refine hK.out _ _ ⟨(blk_cell (blk_alloc BK365.out _) 0).trans rfl, (blk_cell (blk_alloc BK365.out _) 1).trans rfl, (blk_cell (blk_alloc BK367.out _) 0).trans rfl, (blk_cell (blk_alloc BK367.out _) 1).trans rfl⟩ (fun hHeld => ?_)
         clear hK K
         refine norm_ (a' := ?_) ?_ ?_
         rotate_left
         ·
          show Act.put _ (some 37) _ = _
          simp only [Act.put, List.setIfInBounds_toArray, List.set_cons_zero, List.set_cons_succ, i64_w, i32_w]
          rfl
         refine one_ (i := 12) (N := some 38) #[true, true, true, true, true, true, true, true, true, true, true, true, true, false, false] rfl rfl (one_of HT_.out (by kernel_rfl)) (by decide) (fun K hK => ?_)
         refine Kd.S_append_step k64 (w0 := w) w.heap.size (by rfl) (.tmp 27) (.tmp 37) 22 64 (.agg #[(.slice none 0 0), (.slice none 0 0)]) 48 rfl Try.underlying22 info64 rfl (by decide) (by omega) (.slice Ao27 x366001_1.length co27) x366001_1 (⟨y371, y377⟩ : S64) [.slice Ao38 y371.length co38, .slice Ao37 y377.length co37] (fun k_ => k_ ≠ gb367) (fun k_ => some k_ = (.slice Ao38 y371.length co38 : Value).ownBlock ∨ some k_ = (.slice Ao37 y377.length co37 : Value).ownBlock) rfl rfl ?aP (fun k_ hk_ => hk_.elim (fun h_ => ((Kd.R_mono (ok' := fun k_ => ((fun k_ => k_ ≠ gb367)) k_ ∧ some k_ ≠ (.slice Ao27 x366001_1.length co27 : Value).ownBlock) (Kd.R_types (Kd.R_apart' (HO373.out) (Kd.S_typed HO_366001.out) (by decide)) BK367.out (by decide)) (fun k_ hk => ⟨hk.2, hk.1.2⟩))).1 k_ h_.symm) (fun h_ => ((Kd.R_mono (ok' := fun k_ => ((fun k_ => k_ ≠ gb367)) k_ ∧ some k_ ≠ (.slice Ao27 x366001_1.length co27 : Value).ownBlock) (Kd.R_types (Kd.R_apart' (HO379.out) (Kd.S_typed HO_366001.out) (by decide)) BK367.out (by decide)) (fun k_ hk => ⟨hk.2, hk.1.2⟩))).1 k_ h_.symm)) ?aF ?aO ?aB ?aS ?aL ?_
         (case aP => exact k64_mkM _ _ _ (⟨y371, y377⟩ : S64) (Kd.R_mono (Kd.R_tight rfl (Kd.R_mono (ok' := fun k_ => ((fun k_ => k_ ≠ gb367)) k_ ∧ some k_ ≠ (.slice Ao27 x366001_1.length co27 : Value).ownBlock) (Kd.R_types (Kd.R_apart' (HO373.out) (Kd.S_typed HO_366001.out) (by decide)) BK367.out (by decide)) (fun k_ hk => ⟨hk.2, hk.1.2⟩))) (fun _ h_ => Or.inl h_)) (Kd.R_mono (Kd.R_tight rfl (Kd.R_mono (ok' := fun k_ => ((fun k_ => k_ ≠ gb367)) k_ ∧ some k_ ≠ (.slice Ao27 x366001_1.length co27 : Value).ownBlock) (Kd.R_types (Kd.R_apart' (HO379.out) (Kd.S_typed HO_366001.out) (by decide)) BK367.out (by decide)) (fun k_ hk => ⟨hk.2, hk.1.2⟩))) (fun _ h_ => Or.inr (h_))))
         (case aB => exact bel)
         (case aF => exact (fun k_ hk => Kd.freshB (g := gb367) (o := .cells #[.slice A366_0 ((rd_T64 l0_1 x5_1).f0).length c366_0, .slice A366_1 ((rd_T64 l0_1 x5_1).f1).length c366_1] 64 (0, 0)) blkz k_ hk))
         (case aO => exact (by (with_reducible repeat (first | apply Kd.S_alloc | apply Kd.S_drewN | apply Kd.S_drew)); exact Kd.S_mono HO_366001.out (fun k_ hk => ⟨hk.1.2, fun e_ => e_.elim (fun h_ => hk.1.1 h_) (fun h_ => hk.2 h_)⟩)))
         (case aS => exact (below_size bel))
         (case aL => have := LMc18.out; omega)
         intro v381 w39 ho hb hg hat
         rw [← Ny380.out] at ho
         have n0_ := Aside0.mk (blk_grown (g := gb362) (o := .cells #[.int .i64 a0_0, .slice (some ad366) l0_1.length c0_1] 24 (0, 0)) blkz hg (Kd.S_ne HO_366001.out BK362.out (by decide)))
         have n1_ := Aside0.mk (blk_grown (g := gb363) (o := .cells #[.int .i64 0, .slice none 0 0] 24 (0, 0)) blkz hg (Kd.S_ne HO_366001.out BK363.out (by decide)))
         have n2_ := Aside0.mk (blk_grown (g := gb365) (o := .cells #[.int .i64 a0_0, .slice Ao27 x366001_1.length co27] 24 (0, 0)) blkz hg (Kd.S_ne HO_366001.out BK365.out (by decide)))
         have n3_ := Aside0.mk (blk_grown (g := gb367) (o := .cells #[.slice A366_0 ((rd_T64 l0_1 x5_1).f0).length c366_0, .slice A366_1 ((rd_T64 l0_1 x5_1).f1).length c366_1] 64 (0, 0)) blkz hg (Kd.S_away HO_366001.out (fun _ hk => hk.1.2)))
         have n4_ := Aside0.mk (hb)
         have n5_ := Aside0.mk (ho)
         clear BK362
         clear BK363
         clear BK365
         clear BK367
         clear HB
         clear HO_366001
         clear HO373
         clear HO379
         have BK362 := n0_
         have BK363 := n1_
         have BK365 := n2_
         have BK367 := n3_
         have HB := n4_
         have HO382 := n5_
         clear n0_ n1_ n2_ n3_ n4_ n5_
         clear ho hb hg hat
         obtain ⟨Ao40, co40, eo40⟩ := Kd.S_slice HO382.out
         (first | subst eo40 | (injection eo40 with f1_ f2_ f3_; have f4_ := f1_.symm; have f5_ := f3_.symm; clear f1_ f2_ f3_; subst f4_; subst f5_))
         refine hK.out _ _ ⟨(blk_cell BK365.out 0).trans rfl, (blk_cell BK365.out 1).trans rfl, (blk_cell BK367.out 0).trans rfl, (blk_cell BK367.out 1).trans rfl⟩ (fun hHeld => ?_)
         clear hK K
         refine norm_ (a' := ?_) ?_ ?_
         rotate_left
         ·
          show Act.put _ (some 38) _ = _
          simp only [Act.put, List.setIfInBounds_toArray, List.set_cons_zero, List.set_cons_succ, i64_w, i32_w]
          rfl
         refine pst (i := 13) (N := some 39) (bz 15 16383) (any_of HT_.out (by kernel_rfl)) ?_
         refine last_ (i := 14) (N := none) #[true, true, true, true, true, true, true, true, true, true, true, true, true, true, true] rfl rfl (one_of HT_.out (by kernel_rfl)) (by decide) (fun K hK => ?_)
         have hs41 : w39.cell? ⟨gb365, 1, none⟩ = some (.slice Ao27 x366001_1.length co27) := (blk_cell BK365.out 1).trans rfl
         have hfs41 := blk_frozen BK365.out 1
         have hns41_0 := NB362_365.out
         have hns41_1 := NB363_365.out
         have hns41_3 := NB367_365.out
         have hms41_0 := NB365_362.out
         have hms41_1 := NB365_363.out
         have hms41_3 := NB365_367.out
         refine skip_ (w1 := ?_) (by rfl) rfl ?_ ?_
         rotate_left
         ·
          go_simp
          rfl
         refine hK.out _ _ ?_
         clear hK K
         refine done_ (done_of HT_.out (by kernel_rfl)) ?_
         try go_wp2
         go_roundg k1
         case measure => have := HK1.out; omega
         case rel => exact ⟨(wrap64 (x5_1 + 1)), (y380), (.slice Ao40 y380.length co40), rsz, H', ⟨by have := HK1.out; omega⟩, ⟨by (with_reducible repeat (first | apply Kd.S_alloc | apply Kd.S_drewN | apply Kd.S_drew)); exact Kd.S_mono (Kd.S_far (p := ⟨gb365, 1, none⟩) (Kd.S_types HO382.out BK365.out (by decide)) (fun _ hk => hk.2) (.slice Ao40 y380.length co40)) (fun _ hk => trivial)⟩, ⟨by (with_reducible repeat (first | refine blk_drewN ?_ _ | refine blk_drew ?_ | refine blk_alloc ?_ _)); refine blk_far ?_ NB362_365.out _; (with_reducible repeat (first | refine blk_drewN ?_ _ | refine blk_drew ?_ | refine blk_alloc ?_ _)); exact BK362.out⟩, ⟨by (with_reducible repeat (first | refine blk_drewN ?_ _ | refine blk_drew ?_ | refine blk_alloc ?_ _)); refine blk_far ?_ NB363_365.out _; (with_reducible repeat (first | refine blk_drewN ?_ _ | refine blk_drew ?_ | refine blk_alloc ?_ _)); exact BK363.out⟩, ⟨by (with_reducible repeat (first | refine blk_drewN ?_ _ | refine blk_drew ?_ | refine blk_alloc ?_ _)); refine blk_put (cs := #[.int .i64 a0_0, .slice Ao27 x366001_1.length co27]) ?_ 1 _ rfl; (with_reducible repeat (first | refine blk_drewN ?_ _ | refine blk_drew ?_ | refine blk_alloc ?_ _)); exact BK365.out⟩, ⟨bel⟩⟩
        ·
         rw [if_neg c18] at H
         exact absurd H (by simp)
       ·
        rw [if_neg c17] at H
        exact absurd H (by simp)
      ·
       rw [if_neg c16] at H
       exact absurd H (by simp)
     ·
      rw [if_neg c15] at H
      exact absurd H (by simp)
    ·
     rw [if_neg c14] at H
     have c14b0 : decide (x5_1 < (l0_1.length : Int)) = false := decide_eq_false c14
     clear c14
     simp only [Option.some.injEq, Prod.mk.injEq] at H
     obtain ⟨rfl, rfl, rfl⟩ := H
     have hnb42 := NB362_363.out
     have hnc42 := NB363_362.out
     have hnb43 := NB362_365.out
     have hnc43 := NB365_362.out
     obtain ⟨hcz44_0, hcz44_1⟩ := bc2 BK362.out
     obtain ⟨hfz44_0, hfz44_1⟩ := bf2 BK362.out
     have hnb45 := NB365_363.out
     have hnc45 := NB363_365.out
     obtain ⟨hcz46_0, hcz46_1⟩ := bc2 BK365.out
     obtain ⟨hfz46_0, hfz46_1⟩ := bf2 BK365.out
     obtain ⟨hcz47_0, hcz47_1⟩ := bc2 BK363.out
     obtain ⟨hfz47_0, hfz47_1⟩ := bf2 BK363.out
     obtain ⟨Ao48, co48, eo48⟩ := Kd.S_slice HO_366001.out
     subst eo48
     go_wp2
     refine bodyPost_ret (results_ct rfl _ _ gb363 24 #[.int .i64 a0_0, .slice Ao48 x366001_1.length co48] (0, 0) _ rfl (by (with_reducible repeat (first | refine blk_drewN ?_ _ | refine blk_drew ?_ | refine blk_alloc ?_ _)); refine blk_put (cs := #[.int .i64 a0_0, .slice none 0 0]) ?_ 1 _ rfl; (with_reducible repeat (first | refine blk_drewN ?_ _ | refine blk_drew ?_ | refine blk_alloc ?_ _)); refine blk_put (cs := #[.int .i64 0, .slice none 0 0]) ?_ 0 _ rfl; (with_reducible repeat (first | refine blk_drewN ?_ _ | refine blk_drew ?_ | refine blk_alloc ?_ _)); exact BK363.out) Try.underlying24 rfl (by kernel_rfl)) rfl ?_
     exact ⟨_, ezz, by (with_reducible repeat (first | apply Kd.S_alloc | apply Kd.S_drewN | apply Kd.S_drew)); exact Kd.S_mono (Kd.S_far (p := ⟨gb363, 1, none⟩) (Kd.S_far (p := ⟨gb363, 0, none⟩) (Kd.S_types HO_366001.out BK363.out (by decide)) (fun _ hk => hk.2) (.int .i64 a0_0)) (fun _ hk => hk.2) (.slice Ao48 x366001_1.length co48)) (fun _ hk => trivial), bel⟩
 ·
  replace c3 := Bool.eq_false_iff.mpr c3
  subst c3
  rw [if_neg (show ¬ (false = true) by decide)] at H
  simp only [Option.some.injEq, Prod.mk.injEq] at H
  obtain ⟨rfl, rfl, rfl⟩ := H
  go_enter Try.func38, Try.ntmps38
  go_wp2_with (first | ((with_reducible refine gate_dst (N := 1) rfl ?_); refine box_event ?hg (N := 1) ?hd (cs := #[.int .i64 a0_0, .slice A0_1 l0_1.length c0_1]) (t := 24) ?hr ?_; (case hd => rfl); (case hg => rfl); (case hr => first | (go_simp; done) | (go_simp; rfl)); intro gb362 hg w49 hbox hb; have BK362 := Aside0.mk (hbox); have GW362 := bsz (w := w) hg; have GE362 := GW362; replace HB := Aside0.mk (below_step bel hb); clear hb hbox hg) | ((with_reducible refine gate_dst (N := 2) rfl ?_); refine box_event ?hg (N := 2) ?hd (cs := #[.int .i64 0, .slice none 0 0]) (t := 24) ?hr ?_; (case hd => rfl); (case hg => rfl); (case hr => first | (go_simp; done) | (go_simp; rfl)); intro gb363 hg w50 hbox hb; have BK363 := Aside0.mk (hbox); have GW363 := bsz (w := w) hg; have GE363 := GW363; have NB362_363 := neL (g := gb362) hg; have NB363_362 := neR (g := gb362) hg; replace BK362 := Aside0.mk (blk_below (g := gb362) blkz hb); replace HB := Aside0.mk (below_step bel hb); clear hb hbox hg; have hnb51 := NB362_363.out; have hnc51 := NB363_362.out; obtain ⟨hcz52_0, hcz52_1⟩ := bc2 BK362.out) | ((with_reducible refine gate_callee (f := 12) rfl ?_); refine goesL_ (some 8) rfl rfl Try.func12 (by kernel_rfl) rfl #[.agg #[.int .i64 a0_0, .slice A0_1 l0_1.length c0_1]] rfl mapz ?_; (with_reducible refine (dropperref06_Valid.calls k a0_0 _ _ l0_1 false _ (cbz HR0_1) HC0_1.out A2.out).mono ?_); rintro e w53 ⟨rfl, hb⟩; refine ⟨_, rfl, ?_⟩; replace BK362 := Aside0.mk (blk_below (g := gb362) blkz hb); replace BK363 := Aside0.mk (blk_below (g := gb363) blkz hb); replace HB := Aside0.mk (below_step bel hb); clear hb; obtain ⟨hcz54_0, hcz54_1⟩ := bc2 BK363.out; obtain ⟨hfz54_0, hfz54_1⟩ := bf2 BK363.out))
  refine bodyPost_ret (results_ct rfl _ _ gb363 24 #[.int .i64 0, .slice none 0 0] (0, 0) _ rfl (by (with_reducible repeat (first | refine blk_drewN ?_ _ | refine blk_drew ?_ | refine blk_alloc ?_ _)); refine blk_put (cs := #[.int .i64 0, .slice none 0 0]) ?_ 1 _ rfl; (with_reducible repeat (first | refine blk_drewN ?_ _ | refine blk_drew ?_ | refine blk_alloc ?_ _)); refine blk_put (cs := #[.int .i64 0, .slice none 0 0]) ?_ 0 _ rfl; (with_reducible repeat (first | refine blk_drewN ?_ _ | refine blk_drew ?_ | refine blk_alloc ?_ _)); exact BK363.out) Try.underlying24 rfl (by kernel_rfl)) rfl ?_
  exact ⟨_, ezz, by first | exact Kd.S_nil _ _ _ _ _ | exact Kd.N_nil _ _ _ _ _ | exact Kd.V_nil _ _ _ _ _ | exact Kd.Q_nil _ _ _ _ _ | exact Kd.R_nil _ _ _ _ _, bel⟩

/-! ### dropperlaw06_sameBoards: function 39 -/
mutual
def dropperlaw06_sameBoards.j0 : Nat → Bool → Int → List (S64) → Int → List (S64) → Option (Bool)
 | 0, _, _, _, _, _ => none
 | k + 1, x19, x384000, x384001, x385000, x385001 => if x19 = true then (some false) else (dropperlaw06_sameBoards.l0 k 0 x384000 x384001 x385000 x385001)
def dropperlaw06_sameBoards.l0 : Nat → Int → Int → List (S64) → Int → List (S64) → Option (Bool)
 | 0, _, _, _, _, _ => none
 | k + 1, x5, x384000, x384001, x385000, x385001 => if x5 < (x384001.length : Int) then (if 0 ≤ x5 then (if x5 < (x385001.length : Int) then ((dropperlaw06_SameInts.f k ((rd_T64 x384001 x5).f0) ((rd_T64 x385001 x5).f0)).bind fun t387 => (if t387 = true then ((dropperlaw06_SameInts.f k ((rd_T64 x384001 x5).f1) ((rd_T64 x385001 x5).f1)).bind fun t390 => (if t390 = true then (dropperlaw06_sameBoards.l0 k (wrap64 (x5 + 1)) x384000 x384001 x385000 x385001) else (some false))) else (some false))) else (none)) else (none)) else (some true)
end
def dropperlaw06_sameBoards.f (k : Nat) (a0_0 : Int) (l0_1 : List (S64)) (a1_0 : Int) (l1_1 : List (S64)) : Option (Bool) := if a0_0 = a1_0 then (dropperlaw06_sameBoards.j0 k ((l0_1.length : Int) != (l1_1.length : Int)) a0_0 l0_1 a1_0 l1_1) else (dropperlaw06_sameBoards.j0 k true a0_0 l0_1 a1_0 l1_1)
def dropperlaw06_sameBoards.T6 : Bool × List (List Nat × List Nat) := (true, [([], []), ([0], [0]), ([], []), ([1, 2], [1, 2]), ([3], [3]), ([4], [4]), ([], []), ([6], [6]), ([], []), ([7, 8], [7, 8]), ([9], [9]), ([10], [10]), ([5, 11], [5, 11]), ([12], [12]), ([13, 12], [13]), ([14], [14]), ([15, 14], [14, 15]), ([14], [14]), ([16, 17, 14], [14, 16, 17]), ([18, 14], [14, 18]), ([19, 14], [14, 19]), ([14], [14]), ([21, 14], [14, 21]), ([14], [14]), ([22, 23, 14], [14, 22, 23]), ([24, 14], [14, 24]), ([25, 14], [14, 25]), ([20, 26, 14, 14], [14, 20, 26]), ([27, 14], [14, 27]), ([14, 28], [14, 28])])
def dropperlaw06_sameBoards.B6 : List Nat := [0, 1, 0, 7, 15, 31, 0, 64, 0, 448, 960, 1984, 4095, 8191, 16383, 32767, 65535, 32767, 262143, 524287, 1048575, 32767, 2129919, 32767, 14712831, 31490047, 65044479, 134217727, 268435455, 536870911]
theorem dropperlaw06_sameBoards.tab6 : rtab .any (opsOf Try.f39 6) = dropperlaw06_sameBoards.T6 := by kernel_rfl
theorem dropperlaw06_sameBoards.bits6 : waitsOk dropperlaw06_sameBoards.T6.2 dropperlaw06_sameBoards.B6 = true := by kernel_rfl
set_option maxHeartbeats 8000000 in
set_option maxRecDepth 100000 in
theorem dropperlaw06_sameBoards.calls (k : Nat) (a0_0 : Int) (A0_1 : Option Addr) (c0_1 : Nat) (l0_1 : List (S64)) (a1_0 : Int) (A1_1 : Option Addr) (c1_1 : Nat) (l1_1 : List (S64)) (r : Bool) (w : World) (hr0_1 : Kd.C k64 w A0_1 l0_1.length l0_1) (hc0_1 : l0_1.length ≤ c0_1) (hr1_1 : Kd.C k64 w A1_1 l1_1.length l1_1) (hc1_1 : l1_1.length ≤ c1_1) (h : dropperlaw06_sameBoards.f k a0_0 l0_1 a1_0 l1_1 = some r) :
  Calls Try.prog 39 #[.agg #[.int .i64 a0_0, .slice A0_1 l0_1.length c0_1], .agg #[.int .i64 a1_0, .slice A1_1 l1_1.length c1_1]] w fun e w' => e = .returned (.bool r) ∧ Below w.heap.size w w' := by
 have hu24 := Try.underlying24
 have HR0_1 := Aside0.mk hr0_1
 have HC0_1 := Aside0.mk hc0_1
 clear hr0_1 hc0_1
 have HR1_1 := Aside0.mk hr1_1
 have HC1_1 := Aside0.mk hc1_1
 clear hr1_1 hc1_1
 have HB := Aside0.mk (Below.refl w.heap.size w)
 have H : (if a0_0 = a1_0 then (dropperlaw06_sameBoards.j0 k ((l0_1.length : Int) != (l1_1.length : Int)) a0_0 l0_1 a1_0 l1_1) else (dropperlaw06_sameBoards.j0 k true a0_0 l0_1 a1_0 l1_1)) = some r := h
 clear h
 have HC3 := Aside0.mk H
 clear H
 go_enter Try.func39, Try.ntmps39
 go_upto_region 1 with (first | ((with_reducible refine gate_dst (N := 2) rfl ?_); (try (refine gate_guard (by rfl) ?_; dsimp only)); refine box_event ?hg (N := 2) ?hd (cs := #[.int .i64 a0_0, .slice A0_1 l0_1.length c0_1]) (t := 24) ?hr ?_; (case hd => rfl); (case hg => rfl); (case hr => first | (go_simp; done) | (go_simp; rfl)); intro gb383 hg w4 hbox hb; have BK383 := Aside0.mk (hbox); have GW383 := bsz (w := w) hg; have GE383 := GW383; replace HB := Aside0.mk (below_step bel hb); clear hb hbox hg) | ((with_reducible refine gate_dst (N := 3) rfl ?_); (try (refine gate_guard (by rfl) ?_; dsimp only)); refine box_event ?hg (N := 3) ?hd (cs := #[.int .i64 a1_0, .slice A1_1 l1_1.length c1_1]) (t := 24) ?hr ?_; (case hd => rfl); (case hg => rfl); (case hr => first | (go_simp; done) | (go_simp; rfl)); intro gb384 hg w5 hbox hb; have BK384 := Aside0.mk (hbox); have GW384 := bsz (w := w) hg; have GE384 := GW384; have NB383_384 := neL (g := gb383) hg; have NB384_383 := neR (g := gb383) hg; replace BK383 := Aside0.mk (blk_below (g := gb383) blkz hb); replace HB := Aside0.mk (below_step bel hb); clear hb hbox hg))
 (try simp only [Act.put, List.setIfInBounds_toArray, List.set_cons_zero, List.set_cons_succ])
 go_cut [19] (fun v19 wc => ∃ (kq : Nat) (x19_2 : Bool), v19 = .bool x19_2 ∧ Aside0 (dropperlaw06_sameBoards.j0 kq x19_2 a0_0 l0_1 a1_0 l1_1 = some r) ∧ Aside0 (kq ≤ k) ∧ Aside0 (wc.heap[gb383]? = some (.cells #[.int .i64 a0_0, (.slice A0_1 l0_1.length c0_1)] 24 (0, 0))) ∧ Aside0 (wc.heap[gb384]? = some (.cells #[.int .i64 a1_0, (.slice A1_1 l1_1.length c1_1)] 24 (0, 0))) ∧ Aside0 (Below w.heap.size w wc))
 case first =>
  have H := HC3.out
  clear HC3
  by_cases c6 : a0_0 = a1_0
  ·
   rw [if_pos c6] at H
   have c6b0 : (a0_0 == a1_0) = true := beq_iff_eq.mpr c6
   have c6b1 : (a0_0 != a1_0) = false := bne_eq_false_iff_eq.mpr c6
   clear c6
   (first | rw [c6b0] | (simp only [i64_w, i32_w]; rw [c6b0]) | skip)
   have H' := Aside0.mk H
   clear H
   have hnb7 := NB383_384.out
   have hnc7 := NB384_383.out
   obtain ⟨hcz8_0, hcz8_1⟩ := bc2 BK383.out
   obtain ⟨hfz8_0, hfz8_1⟩ := bf2 BK383.out
   obtain ⟨hcz9_0, hcz9_1⟩ := bc2 BK384.out
   obtain ⟨hfz9_0, hfz9_1⟩ := bf2 BK384.out
   go_wp2
   go_meet
   case rel => exact ⟨_, (((l0_1.length : Int) != (l1_1.length : Int))), rsz, H', ⟨by first | omega | exact Nat.le_refl _⟩, ⟨blkz⟩, ⟨blkz⟩, ⟨bel⟩⟩
  ·
   rw [if_neg c6] at H
   have c6b0 : (a0_0 == a1_0) = false := beq_eq_false_iff_ne.mpr c6
   have c6b1 : (a0_0 != a1_0) = true := bne_iff_ne.mpr c6
   (first | rw [c6b0] | (simp only [i64_w, i32_w]; rw [c6b0]) | skip)
   have H' := Aside0.mk H
   clear H
   have hnb10 := NB383_384.out
   have hnc10 := NB384_383.out
   obtain ⟨hcz11_0, hcz11_1⟩ := bc2 BK383.out
   obtain ⟨hfz11_0, hfz11_1⟩ := bf2 BK383.out
   obtain ⟨hcz12_0, hcz12_1⟩ := bc2 BK384.out
   obtain ⟨hfz12_0, hfz12_1⟩ := bf2 BK384.out
   go_wp2
   go_meet
   case rel => exact ⟨_, (true), rsz, H', ⟨by first | omega | exact Nat.le_refl _⟩, ⟨blkz⟩, ⟨blkz⟩, ⟨bel⟩⟩
 case rest =>
  clear HC3
  (try clear c1); (try clear p2); (try clear c3); (try clear c6); (try clear c6b0); (try clear c6b1); (try clear c7); (try clear c10); (try clear hcz11_0); (try clear hcz11_1); (try clear hcz12_0); (try clear hcz12_1); (try clear hcz8_0); (try clear hcz8_1); (try clear hcz9_0); (try clear hcz9_1); (try clear hfz11_0); (try clear hfz11_1); (try clear hfz12_0); (try clear hfz12_1); (try clear hfz8_0); (try clear hfz8_1); (try clear hfz9_0); (try clear hfz9_1)
  obtain ⟨kq, x19_2, rfl, HA, HJ2, BK383, BK384, HB⟩ := hcut
  cases kq with
  | zero => exact absurd HA.out (by simp [dropperlaw06_sameBoards.j0])
  | succ kj2 =>
   have H := HA.out
   clear HA
   simp only [dropperlaw06_sameBoards.j0] at H
   by_cases c13 : x19_2 = true
   ·
    subst c13
    rw [if_pos rfl] at H
    obtain rfl := Option.some.inj H
    go_wp2
    go_ret
    exact ⟨ezz, bel⟩
   ·
    replace c13 := Bool.eq_false_iff.mpr c13
    subst c13
    rw [if_neg (show ¬ (false = true) by decide)] at H
    have H' := Aside0.mk H
    clear H
    go_wp2
    go_loopg [5] kj2 (fun kq v5 w' => ∃ (x5_2 : Int), v5 = .int .i64 x5_2 ∧ Aside0 (dropperlaw06_sameBoards.l0 kq x5_2 a0_0 l0_1 a1_0 l1_1 = some r) ∧ Aside0 (kq ≤ kj2) ∧ Aside0 (w'.heap[gb383]? = some (.cells #[.int .i64 a0_0, (.slice A0_1 l0_1.length c0_1)] 24 (0, 0))) ∧ Aside0 (w'.heap[gb384]? = some (.cells #[.int .i64 a1_0, (.slice A1_1 l1_1.length c1_1)] 24 (0, 0))) ∧ Aside0 (Below w.heap.size w w'))
    case atStart => exact ⟨(0), rsz, H', ⟨Nat.le_refl _⟩, ⟨blkz⟩, ⟨blkz⟩, ⟨bel⟩⟩
    case round =>
     clear H'
     (try clear c1); (try clear p2); (try clear c3); (try clear c6); (try clear c6b0); (try clear c6b1); (try clear c7); (try clear c10); (try clear c13); (try clear hcz11_0); (try clear hcz11_1); (try clear hcz12_0); (try clear hcz12_1); (try clear hcz8_0); (try clear hcz8_1); (try clear hcz9_0); (try clear hcz9_1); (try clear hfz11_0); (try clear hfz11_1); (try clear hfz12_0); (try clear hfz12_1); (try clear hfz8_0); (try clear hfz8_1); (try clear hfz9_0); (try clear hfz9_1); (try clear p2)
     obtain ⟨x5_2, rfl, HA, HK2, BK383, BK384, HB⟩ := hrel
     cases gk with
     | zero => exact absurd HA.out (by simp [dropperlaw06_sameBoards.l0])
     | succ k2 =>
      have H := HA.out
      clear HA
      simp only [dropperlaw06_sameBoards.l0] at H
      by_cases c14 : x5_2 < (l0_1.length : Int)
      ·
       rw [if_pos c14] at H
       have c14b0 : decide (x5_2 < (l0_1.length : Int)) = true := decide_eq_true c14
       clear c14
       by_cases c15 : 0 ≤ x5_2
       ·
        rw [if_pos c15] at H
        have c15b0 : decide (0 ≤ x5_2) = true := decide_eq_true c15
        clear c15
        by_cases c16 : x5_2 < (l1_1.length : Int)
        ·
         rw [if_pos c16] at H
         have c16b0 : decide (x5_2 < (l1_1.length : Int)) = true := decide_eq_true c16
         clear c16
         replace H := Option.bind_eq_some_iff.mp H
         obtain ⟨t387, A170, H⟩ := H
         try dsimp only at H
         have A17 := Aside0.mk A170
         clear A170
         by_cases c18 : t387 = true
         ·
          subst c18
          rw [if_pos rfl] at H
          replace H := Option.bind_eq_some_iff.mp H
          obtain ⟨t390, A190, H⟩ := H
          try dsimp only at H
          have A19 := Aside0.mk A190
          clear A190
          by_cases c20 : t390 = true
          ·
           subst c20
           rw [if_pos rfl] at H
           have H' := Aside0.mk H
           clear H
           have hnb21 := NB383_384.out
           have hnc21 := NB384_383.out
           obtain ⟨hcz22_0, hcz22_1⟩ := bc2 BK383.out
           obtain ⟨hfz22_0, hfz22_1⟩ := bf2 BK383.out
           try go_wp2
           have n0_ := Aside0.mk (blk_drew BK383.out)
           have n1_ := Aside0.mk (blk_drew BK384.out)
           have n2_ := Aside0.mk (below_drew1 HB.out)
           clear BK383
           clear BK384
           clear HB
           have BK383 := n0_
           have BK384 := n1_
           have HB := n2_
           clear n0_ n1_ n2_
           have p385 : 0 ≤ (x5_2 : Int) := of_decide_eq_true asz
           have q385 : x5_2 < (l0_1.length : Int) := of_decide_eq_true asz
           obtain ⟨ad385, A385_0, c385_0, A385_1, c385_1, e385, hx385_0, hx385_1, hl385_0, hi385_0, hl385_1, hi385_1⟩ := at_T64 HR0_1.out x5_2 p385 q385
           have hw385_1 := hx385_1
           have hw385_0 := hx385_0
           cases e385
           replace hx385_0 := (HB.out.cell (World.block_lt_of_cell? w _ hx385_0)).trans hx385_0
           replace hx385_1 := (HB.out.cell (World.block_lt_of_cell? w _ hx385_1)).trans hx385_1
           have HR385_0 := Aside0.mk hi385_0
           have HC385_0 := Aside0.mk hl385_0
           clear hi385_0 hl385_0
           have HR385_1 := Aside0.mk hi385_1
           have HC385_1 := Aside0.mk hl385_1
           clear hi385_1 hl385_1
           replace p385 := eq_true p385
           replace q385 := eq_true q385
           have p386 : 0 ≤ (x5_2 : Int) := of_decide_eq_true asz
           have q386 : x5_2 < (l1_1.length : Int) := of_decide_eq_true asz
           obtain ⟨ad386, A386_0, c386_0, A386_1, c386_1, e386, hx386_0, hx386_1, hl386_0, hi386_0, hl386_1, hi386_1⟩ := at_T64 HR1_1.out x5_2 p386 q386
           have hw386_1 := hx386_1
           have hw386_0 := hx386_0
           cases e386
           replace hx386_0 := (HB.out.cell (World.block_lt_of_cell? w _ hx386_0)).trans hx386_0
           replace hx386_1 := (HB.out.cell (World.block_lt_of_cell? w _ hx386_1)).trans hx386_1
           have HR386_0 := Aside0.mk hi386_0
           have HC386_0 := Aside0.mk hl386_0
           clear hi386_0 hl386_0
           have HR386_1 := Aside0.mk hi386_1
           have HC386_1 := Aside0.mk hl386_1
           clear hi386_1 hl386_1
           replace p386 := eq_true p386
           replace q386 := eq_true q386
           have p388 : 0 ≤ (x5_2 : Int) := of_decide_eq_true asz
           have q388 : x5_2 < (l0_1.length : Int) := of_decide_eq_true asz
           obtain ⟨ad388, A388_0, c388_0, A388_1, c388_1, e388, hx388_0, hx388_1, hl388_0, hi388_0, hl388_1, hi388_1⟩ := at_T64 HR0_1.out x5_2 p388 q388
           have hw388_1 := hx388_1
           have hw388_0 := hx388_0
           obtain rfl : ad385 = ad388 := (by injection e388)
           replace hx388_0 := (HB.out.cell (World.block_lt_of_cell? w _ hx388_0)).trans hx388_0
           replace hx388_1 := (HB.out.cell (World.block_lt_of_cell? w _ hx388_1)).trans hx388_1
           have HR388_0 := Aside0.mk hi388_0
           have HC388_0 := Aside0.mk hl388_0
           clear hi388_0 hl388_0
           have HR388_1 := Aside0.mk hi388_1
           have HC388_1 := Aside0.mk hl388_1
           clear hi388_1 hl388_1
           replace p388 := eq_true p388
           replace q388 := eq_true q388
           have ea_ := Option.some.inj (hx385_0.symm.trans hx388_0)
           injection ea_ with ea_ en_ ec_
           subst ea_
           subst ec_
           clear en_
           have ea_ := Option.some.inj (hx385_1.symm.trans hx388_1)
           injection ea_ with ea_ en_ ec_
           subst ea_
           subst ec_
           clear en_
           have p389 : 0 ≤ (x5_2 : Int) := of_decide_eq_true asz
           have q389 : x5_2 < (l1_1.length : Int) := of_decide_eq_true asz
           obtain ⟨ad389, A389_0, c389_0, A389_1, c389_1, e389, hx389_0, hx389_1, hl389_0, hi389_0, hl389_1, hi389_1⟩ := at_T64 HR1_1.out x5_2 p389 q389
           have hw389_1 := hx389_1
           have hw389_0 := hx389_0
           obtain rfl : ad386 = ad389 := (by injection e389)
           replace hx389_0 := (HB.out.cell (World.block_lt_of_cell? w _ hx389_0)).trans hx389_0
           replace hx389_1 := (HB.out.cell (World.block_lt_of_cell? w _ hx389_1)).trans hx389_1
           have HR389_0 := Aside0.mk hi389_0
           have HC389_0 := Aside0.mk hl389_0
           clear hi389_0 hl389_0
           have HR389_1 := Aside0.mk hi389_1
           have HC389_1 := Aside0.mk hl389_1
           clear hi389_1 hl389_1
           replace p389 := eq_true p389
           replace q389 := eq_true q389
           have ea_ := Option.some.inj (hx386_0.symm.trans hx389_0)
           injection ea_ with ea_ en_ ec_
           subst ea_
           subst ec_
           clear en_
           have ea_ := Option.some.inj (hx386_1.symm.trans hx389_1)
           injection ea_ with ea_ en_ ec_
           subst ea_
           subst ec_
           clear en_
           refine start_ (n := 30) (S := fun w' => w'.cell? ⟨gb383, 0, none⟩ = some (.int .i64 a0_0) ∧ w'.cell? ⟨gb383, 1, none⟩ = some (.slice (some ad385) l0_1.length c0_1) ∧ w'.cell? ⟨gb384, 0, none⟩ = some (.int .i64 a1_0) ∧ w'.cell? ⟨gb384, 1, none⟩ = some (.slice (some ad386) l1_1.length c1_1) ∧ w'.cell? (ad385.add ((x5_2).toNat * 2)) = some (.slice A385_0 ((rd_T64 l0_1 x5_2).f0).length c385_0) ∧ w'.cell? ⟨(ad385.add ((x5_2).toNat * 2)).block, (ad385.add ((x5_2).toNat * 2)).off + 1, none⟩ = some (.slice A385_1 ((rd_T64 l0_1 x5_2).f1).length c385_1) ∧ w'.cell? (ad386.add ((x5_2).toNat * 2)) = some (.slice A386_0 ((rd_T64 l1_1 x5_2).f0).length c386_0) ∧ w'.cell? ⟨(ad386.add ((x5_2).toNat * 2)).block, (ad386.add ((x5_2).toNat * 2)).off + 1, none⟩ = some (.slice A386_1 ((rd_T64 l1_1 x5_2).f1).length c386_1) ∧ w'.cell? (ad385.add ((x5_2).toNat * 2)) = some (.slice A385_0 ((rd_T64 l0_1 x5_2).f0).length c385_0) ∧ w'.cell? ⟨(ad385.add ((x5_2).toNat * 2)).block, (ad385.add ((x5_2).toNat * 2)).off + 1, none⟩ = some (.slice A385_1 ((rd_T64 l0_1 x5_2).f1).length c385_1) ∧ w'.cell? (ad386.add ((x5_2).toNat * 2)) = some (.slice A386_0 ((rd_T64 l1_1 x5_2).f0).length c386_0) ∧ w'.cell? ⟨(ad386.add ((x5_2).toNat * 2)).block, (ad386.add ((x5_2).toNat * 2)).off + 1, none⟩ = some (.slice A386_1 ((rd_T64 l1_1 x5_2).f1).length c386_1)) (ds := []) #[false, false, false, false, false, false, false, false, false, false, false, false, false, false, false, false, false, false, false, false, false, false, false, false, false, false, false, false, false, false] (by kernel_rfl) rfl rfl ⟨(blk_cell BK383.out 0).trans rfl, (blk_cell BK383.out 1).trans rfl, (blk_cell BK384.out 0).trans rfl, (blk_cell BK384.out 1).trans rfl, ((HB.out.cell (World.block_lt_of_cell? w _ hw385_0)).trans hw385_0), ((HB.out.cell (World.block_lt_of_cell? w _ hw385_1)).trans hw385_1), ((HB.out.cell (World.block_lt_of_cell? w _ hw386_0)).trans hw386_0), ((HB.out.cell (World.block_lt_of_cell? w _ hw386_1)).trans hw386_1), ((HB.out.cell (World.block_lt_of_cell? w _ hw388_0)).trans hw388_0), ((HB.out.cell (World.block_lt_of_cell? w _ hw388_1)).trans hw388_1), ((HB.out.cell (World.block_lt_of_cell? w _ hw389_0)).trans hw389_0), ((HB.out.cell (World.block_lt_of_cell? w _ hw389_1)).trans hw389_1)⟩ (fun hHeld => ?_); refine with_tabW dropperlaw06_sameBoards.tab6 dropperlaw06_sameBoards.bits6 (fun HT_ HW_ => ?_)
           generalize wr.drew = w23 at BK383 BK384 HB HR385_0 HR385_1 HR386_0 HR386_1 HR388_0 HR388_1 HR389_0 HR389_1 hx385_0 hx385_1 hx386_0 hx386_1 hx388_0 hx388_1 hx389_0 hx389_1 hHeld ⊢
           refine pst (i := 0) (N := some 27) (bz 30 1) (any_of HT_.out (by kernel_rfl)) ?_
           refine pst (i := 2) (N := some 29) (bz 30 5) (any_of HT_.out (by kernel_rfl)) ?_
           refine pst (i := 6) (N := some 33) (bz 30 69) (any_of HT_.out (by kernel_rfl)) ?_
           refine pst (i := 8) (N := some 35) (bz 30 325) (any_of HT_.out (by kernel_rfl)) ?_
           refine tst12 (i := 1) (N := some 28) (bz 30 327) (take_ofW HT_.out HW_.out (by kernel_rfl)) hHeld ?_
           refine pst (i := 3) (N := some 30) (bz 30 335) (any_of HT_.out (by kernel_rfl)) ?_
           refine pst (i := 4) (N := some 31) (bz 30 351) (any_of HT_.out (by kernel_rfl)) ?_
           refine tst12 (i := 5) (N := some 32) (bz 30 383) (take_ofW HT_.out HW_.out (by kernel_rfl)) hHeld ?_
           refine tst12 (i := 7) (N := some 34) (bz 30 511) (take_ofW HT_.out HW_.out (by kernel_rfl)) hHeld ?_
           refine pst (i := 9) (N := some 36) (bz 30 1023) (any_of HT_.out (by kernel_rfl)) ?_
           refine pst (i := 10) (N := some 37) (bz 30 2047) (any_of HT_.out (by kernel_rfl)) ?_
           refine tst12 (i := 11) (N := some 38) (bz 30 4095) (take_ofW HT_.out HW_.out (by kernel_rfl)) hHeld ?_
           refine one_ (i := 12) (N := some 39) #[true, true, true, true, true, true, true, true, true, true, true, true, true, false, false, false, false, false, false, false, false, false, false, false, false, false, false, false, false, false] rfl rfl (one_of HT_.out (by kernel_rfl)) (by decide) (fun K hK => ?_)
           refine goes_ Try.func27 (by kernel_rfl) rfl #[.slice A385_0 ((rd_T64 l0_1 x5_2).f0).length c385_0, .slice A386_0 ((rd_T64 l1_1 x5_2).f0).length c386_0] (by rfl) rfl rfl mapz ?_
           with_reducible refine (dropperlaw06_SameInts.calls k2 _ _ ((rd_T64 l0_1 x5_2).f0) _ _ ((rd_T64 l1_1 x5_2).f0) true _ ?side1 ?side2 ?side3 ?side4 A17.out).mono ?_
           (case side1 => exact cbz HR385_0)
           (case side2 => exact HC385_0.out)
           (case side3 => exact cbz HR386_0)
           (case side4 => exact HC386_0.out)
           rintro e w' ⟨rfl, ⟨nd, rfl⟩⟩
           refine ⟨_, rfl, ?_⟩
           refine hK.out _ _ ⟨(blk_cell BK383.out 0).trans rfl, (blk_cell BK383.out 1).trans rfl, (blk_cell BK384.out 0).trans rfl, (blk_cell BK384.out 1).trans rfl, ((HB.out.cell (World.block_lt_of_cell? w _ hw385_0)).trans hw385_0), ((HB.out.cell (World.block_lt_of_cell? w _ hw385_1)).trans hw385_1), ((HB.out.cell (World.block_lt_of_cell? w _ hw386_0)).trans hw386_0), ((HB.out.cell (World.block_lt_of_cell? w _ hw386_1)).trans hw386_1), ((HB.out.cell (World.block_lt_of_cell? w _ hw388_0)).trans hw388_0), ((HB.out.cell (World.block_lt_of_cell? w _ hw388_1)).trans hw388_1), ((HB.out.cell (World.block_lt_of_cell? w _ hw389_0)).trans hw389_0), ((HB.out.cell (World.block_lt_of_cell? w _ hw389_1)).trans hw389_1)⟩ (fun hHeld => ?_)
           clear hK K
           refine norm_ (a' := ?_) ?_ ?_
           rotate_left
           ·
            show Act.put _ (some 39) _ = _
            simp only [Act.put, List.setIfInBounds_toArray, List.set_cons_zero, List.set_cons_succ, i64_w, i32_w]
            rfl
           refine pst (i := 13) (N := some 40) (bz 30 16383) (any_of HT_.out (by kernel_rfl)) ?_
           refine pst (i := 14) (N := some 41) (bz 30 32767) (any_of HT_.out (by kernel_rfl)) ?_
           refine pst (i := 15) (N := some 42) (bz 30 65535) (any_of HT_.out (by kernel_rfl)) ?_
           refine pst (i := 17) (N := some 44) (bz 30 196607) (any_of HT_.out (by kernel_rfl)) ?_
           refine pst (i := 21) (N := some 48) (bz 30 2293759) (any_of HT_.out (by kernel_rfl)) ?_
           refine pst (i := 23) (N := some 50) (bz 30 10682367) (any_of HT_.out (by kernel_rfl)) ?_
           refine tst12 (i := 16) (N := some 43) (bz 30 10747903) (take_ofW HT_.out HW_.out (by kernel_rfl)) hHeld ?_
           refine pst (i := 18) (N := some 45) (bz 30 11010047) (any_of HT_.out (by kernel_rfl)) ?_
           refine pst (i := 19) (N := some 46) (bz 30 11534335) (any_of HT_.out (by kernel_rfl)) ?_
           refine tst12 (i := 20) (N := some 47) (bz 30 12582911) (take_ofW HT_.out HW_.out (by kernel_rfl)) hHeld ?_
           refine tst12 (i := 22) (N := some 49) (bz 30 16777215) (take_ofW HT_.out HW_.out (by kernel_rfl)) hHeld ?_
           refine pst (i := 24) (N := some 51) (bz 30 33554431) (any_of HT_.out (by kernel_rfl)) ?_
           refine pst (i := 25) (N := some 52) (bz 30 67108863) (any_of HT_.out (by kernel_rfl)) ?_
           refine tst12 (i := 26) (N := some 53) (bz 30 134217727) (take_ofW HT_.out HW_.out (by kernel_rfl)) hHeld ?_
           refine one_ (i := 27) (N := some 54) #[true, true, true, true, true, true, true, true, true, true, true, true, true, true, true, true, true, true, true, true, true, true, true, true, true, true, true, true, false, false] rfl rfl (one_of HT_.out (by kernel_rfl)) (by decide) (fun K hK => ?_)
           refine goes_ Try.func27 (by kernel_rfl) rfl #[.slice A385_1 ((rd_T64 l0_1 x5_2).f1).length c385_1, .slice A386_1 ((rd_T64 l1_1 x5_2).f1).length c386_1] (by rfl) rfl rfl mapz ?_
           with_reducible refine (dropperlaw06_SameInts.calls k2 _ _ ((rd_T64 l0_1 x5_2).f1) _ _ ((rd_T64 l1_1 x5_2).f1) true _ ?side1 ?side2 ?side3 ?side4 A19.out).mono ?_
           (case side1 => repeat (first | exact (Kd.C_below HR388_1.out bel) | (with_reducible refine Kd.C_alloc ?_ _) | (with_reducible refine Kd.C_drewN ?_ _) | (with_reducible refine Kd.C_drew ?_)))
           (case side2 => exact HC388_1.out)
           (case side3 => repeat (first | exact (Kd.C_below HR389_1.out bel) | (with_reducible refine Kd.C_alloc ?_ _) | (with_reducible refine Kd.C_drewN ?_ _) | (with_reducible refine Kd.C_drew ?_)))
           (case side4 => exact HC389_1.out)
           rintro e w' ⟨rfl, ⟨nd, rfl⟩⟩
           refine ⟨_, rfl, ?_⟩
           refine hK.out _ _ ⟨(blk_cell BK383.out 0).trans rfl, (blk_cell BK383.out 1).trans rfl, (blk_cell BK384.out 0).trans rfl, (blk_cell BK384.out 1).trans rfl, ((HB.out.cell (World.block_lt_of_cell? w _ hw385_0)).trans hw385_0), ((HB.out.cell (World.block_lt_of_cell? w _ hw385_1)).trans hw385_1), ((HB.out.cell (World.block_lt_of_cell? w _ hw386_0)).trans hw386_0), ((HB.out.cell (World.block_lt_of_cell? w _ hw386_1)).trans hw386_1), ((HB.out.cell (World.block_lt_of_cell? w _ hw388_0)).trans hw388_0), ((HB.out.cell (World.block_lt_of_cell? w _ hw388_1)).trans hw388_1), ((HB.out.cell (World.block_lt_of_cell? w _ hw389_0)).trans hw389_0), ((HB.out.cell (World.block_lt_of_cell? w _ hw389_1)).trans hw389_1)⟩ (fun hHeld => ?_)
           clear hK K
           refine norm_ (a' := ?_) ?_ ?_
           rotate_left
           ·
            show Act.put _ (some 54) _ = _
            simp only [Act.put, List.setIfInBounds_toArray, List.set_cons_zero, List.set_cons_succ, i64_w, i32_w]
            rfl
           refine pst (i := 28) (N := some 55) (bz 30 536870911) (any_of HT_.out (by kernel_rfl)) ?_
           refine pst (i := 29) (N := some 56) (bz 30 1073741823) (any_of HT_.out (by kernel_rfl)) ?_
           refine done_ (done_of HT_.out (by kernel_rfl)) ?_
           try go_wp2
           go_roundg k2
           case measure => have := HJ2.out; have := HK2.out; omega
           case rel => exact ⟨(wrap64 (x5_2 + 1)), rsz, H', ⟨by have := HJ2.out; have := HK2.out; omega⟩, ⟨blkz⟩, ⟨blkz⟩, ⟨bel⟩⟩
          ·
           replace c20 := Bool.eq_false_iff.mpr c20
           subst c20
           rw [if_neg (show ¬ (false = true) by decide)] at H
           obtain rfl := Option.some.inj H
           have hnb24 := NB383_384.out
           have hnc24 := NB384_383.out
           obtain ⟨hcz25_0, hcz25_1⟩ := bc2 BK383.out
           obtain ⟨hfz25_0, hfz25_1⟩ := bf2 BK383.out
           try go_wp2
           have n0_ := Aside0.mk (blk_drew BK383.out)
           have n1_ := Aside0.mk (blk_drew BK384.out)
           have n2_ := Aside0.mk (below_drew1 HB.out)
           clear BK383
           clear BK384
           clear HB
           have BK383 := n0_
           have BK384 := n1_
           have HB := n2_
           clear n0_ n1_ n2_
           have p385 : 0 ≤ (x5_2 : Int) := of_decide_eq_true asz
           have q385 : x5_2 < (l0_1.length : Int) := of_decide_eq_true asz
           obtain ⟨ad385, A385_0, c385_0, A385_1, c385_1, e385, hx385_0, hx385_1, hl385_0, hi385_0, hl385_1, hi385_1⟩ := at_T64 HR0_1.out x5_2 p385 q385
           have hw385_1 := hx385_1
           have hw385_0 := hx385_0
           cases e385
           replace hx385_0 := (HB.out.cell (World.block_lt_of_cell? w _ hx385_0)).trans hx385_0
           replace hx385_1 := (HB.out.cell (World.block_lt_of_cell? w _ hx385_1)).trans hx385_1
           have HR385_0 := Aside0.mk hi385_0
           have HC385_0 := Aside0.mk hl385_0
           clear hi385_0 hl385_0
           have HR385_1 := Aside0.mk hi385_1
           have HC385_1 := Aside0.mk hl385_1
           clear hi385_1 hl385_1
           replace p385 := eq_true p385
           replace q385 := eq_true q385
           have p386 : 0 ≤ (x5_2 : Int) := of_decide_eq_true asz
           have q386 : x5_2 < (l1_1.length : Int) := of_decide_eq_true asz
           obtain ⟨ad386, A386_0, c386_0, A386_1, c386_1, e386, hx386_0, hx386_1, hl386_0, hi386_0, hl386_1, hi386_1⟩ := at_T64 HR1_1.out x5_2 p386 q386
           have hw386_1 := hx386_1
           have hw386_0 := hx386_0
           cases e386
           replace hx386_0 := (HB.out.cell (World.block_lt_of_cell? w _ hx386_0)).trans hx386_0
           replace hx386_1 := (HB.out.cell (World.block_lt_of_cell? w _ hx386_1)).trans hx386_1
           have HR386_0 := Aside0.mk hi386_0
           have HC386_0 := Aside0.mk hl386_0
           clear hi386_0 hl386_0
           have HR386_1 := Aside0.mk hi386_1
           have HC386_1 := Aside0.mk hl386_1
           clear hi386_1 hl386_1
           replace p386 := eq_true p386
           replace q386 := eq_true q386
           have p388 : 0 ≤ (x5_2 : Int) := of_decide_eq_true asz
           have q388 : x5_2 < (l0_1.length : Int) := of_decide_eq_true asz
           obtain ⟨ad388, A388_0, c388_0, A388_1, c388_1, e388, hx388_0, hx388_1, hl388_0, hi388_0, hl388_1, hi388_1⟩ := at_T64 HR0_1.out x5_2 p388 q388
           have hw388_1 := hx388_1
           have hw388_0 := hx388_0
           obtain rfl : ad385 = ad388 := (by injection e388)
           replace hx388_0 := (HB.out.cell (World.block_lt_of_cell? w _ hx388_0)).trans hx388_0
           replace hx388_1 := (HB.out.cell (World.block_lt_of_cell? w _ hx388_1)).trans hx388_1
           have HR388_0 := Aside0.mk hi388_0
           have HC388_0 := Aside0.mk hl388_0
           clear hi388_0 hl388_0
           have HR388_1 := Aside0.mk hi388_1
           have HC388_1 := Aside0.mk hl388_1
           clear hi388_1 hl388_1
           replace p388 := eq_true p388
           replace q388 := eq_true q388
           have ea_ := Option.some.inj (hx385_0.symm.trans hx388_0)
           injection ea_ with ea_ en_ ec_
           subst ea_
           subst ec_
           clear en_
           have ea_ := Option.some.inj (hx385_1.symm.trans hx388_1)
           injection ea_ with ea_ en_ ec_
           subst ea_
           subst ec_
           clear en_
           have p389 : 0 ≤ (x5_2 : Int) := of_decide_eq_true asz
           have q389 : x5_2 < (l1_1.length : Int) := of_decide_eq_true asz
           obtain ⟨ad389, A389_0, c389_0, A389_1, c389_1, e389, hx389_0, hx389_1, hl389_0, hi389_0, hl389_1, hi389_1⟩ := at_T64 HR1_1.out x5_2 p389 q389
           have hw389_1 := hx389_1
           have hw389_0 := hx389_0
           obtain rfl : ad386 = ad389 := (by injection e389)
           replace hx389_0 := (HB.out.cell (World.block_lt_of_cell? w _ hx389_0)).trans hx389_0
           replace hx389_1 := (HB.out.cell (World.block_lt_of_cell? w _ hx389_1)).trans hx389_1
           have HR389_0 := Aside0.mk hi389_0
           have HC389_0 := Aside0.mk hl389_0
           clear hi389_0 hl389_0
           have HR389_1 := Aside0.mk hi389_1
           have HC389_1 := Aside0.mk hl389_1
           clear hi389_1 hl389_1
           replace p389 := eq_true p389
           replace q389 := eq_true q389
           have ea_ := Option.some.inj (hx386_0.symm.trans hx389_0)
           injection ea_ with ea_ en_ ec_
           subst ea_
           subst ec_
           clear en_
           have ea_ := Option.some.inj (hx386_1.symm.trans hx389_1)
           injection ea_ with ea_ en_ ec_
           subst ea_
           subst ec_
           clear en_
           refine start_ (n := 30) (S := fun w' => w'.cell? ⟨gb383, 0, none⟩ = some (.int .i64 a0_0) ∧ w'.cell? ⟨gb383, 1, none⟩ = some (.slice (some ad385) l0_1.length c0_1) ∧ w'.cell? ⟨gb384, 0, none⟩ = some (.int .i64 a1_0) ∧ w'.cell? ⟨gb384, 1, none⟩ = some (.slice (some ad386) l1_1.length c1_1) ∧ w'.cell? (ad385.add ((x5_2).toNat * 2)) = some (.slice A385_0 ((rd_T64 l0_1 x5_2).f0).length c385_0) ∧ w'.cell? ⟨(ad385.add ((x5_2).toNat * 2)).block, (ad385.add ((x5_2).toNat * 2)).off + 1, none⟩ = some (.slice A385_1 ((rd_T64 l0_1 x5_2).f1).length c385_1) ∧ w'.cell? (ad386.add ((x5_2).toNat * 2)) = some (.slice A386_0 ((rd_T64 l1_1 x5_2).f0).length c386_0) ∧ w'.cell? ⟨(ad386.add ((x5_2).toNat * 2)).block, (ad386.add ((x5_2).toNat * 2)).off + 1, none⟩ = some (.slice A386_1 ((rd_T64 l1_1 x5_2).f1).length c386_1) ∧ w'.cell? (ad385.add ((x5_2).toNat * 2)) = some (.slice A385_0 ((rd_T64 l0_1 x5_2).f0).length c385_0) ∧ w'.cell? ⟨(ad385.add ((x5_2).toNat * 2)).block, (ad385.add ((x5_2).toNat * 2)).off + 1, none⟩ = some (.slice A385_1 ((rd_T64 l0_1 x5_2).f1).length c385_1) ∧ w'.cell? (ad386.add ((x5_2).toNat * 2)) = some (.slice A386_0 ((rd_T64 l1_1 x5_2).f0).length c386_0) ∧ w'.cell? ⟨(ad386.add ((x5_2).toNat * 2)).block, (ad386.add ((x5_2).toNat * 2)).off + 1, none⟩ = some (.slice A386_1 ((rd_T64 l1_1 x5_2).f1).length c386_1)) (ds := []) #[false, false, false, false, false, false, false, false, false, false, false, false, false, false, false, false, false, false, false, false, false, false, false, false, false, false, false, false, false, false] (by kernel_rfl) rfl rfl ⟨(blk_cell BK383.out 0).trans rfl, (blk_cell BK383.out 1).trans rfl, (blk_cell BK384.out 0).trans rfl, (blk_cell BK384.out 1).trans rfl, ((HB.out.cell (World.block_lt_of_cell? w _ hw385_0)).trans hw385_0), ((HB.out.cell (World.block_lt_of_cell? w _ hw385_1)).trans hw385_1), ((HB.out.cell (World.block_lt_of_cell? w _ hw386_0)).trans hw386_0), ((HB.out.cell (World.block_lt_of_cell? w _ hw386_1)).trans hw386_1), ((HB.out.cell (World.block_lt_of_cell? w _ hw388_0)).trans hw388_0), ((HB.out.cell (World.block_lt_of_cell? w _ hw388_1)).trans hw388_1), ((HB.out.cell (World.block_lt_of_cell? w _ hw389_0)).trans hw389_0), ((HB.out.cell (World.block_lt_of_cell? w _ hw389_1)).trans hw389_1)⟩ (fun hHeld => ?_); refine with_tabW dropperlaw06_sameBoards.tab6 dropperlaw06_sameBoards.bits6 (fun HT_ HW_ => ?_)
           generalize wr.drew = w26 at BK383 BK384 HB HR385_0 HR385_1 HR386_0 HR386_1 HR388_0 HR388_1 HR389_0 HR389_1 hx385_0 hx385_1 hx386_0 hx386_1 hx388_0 hx388_1 hx389_0 hx389_1 hHeld ⊢
           refine pst (i := 0) (N := some 27) (bz 30 1) (any_of HT_.out (by kernel_rfl)) ?_
           refine pst (i := 2) (N := some 29) (bz 30 5) (any_of HT_.out (by kernel_rfl)) ?_
           refine pst (i := 6) (N := some 33) (bz 30 69) (any_of HT_.out (by kernel_rfl)) ?_
           refine pst (i := 8) (N := some 35) (bz 30 325) (any_of HT_.out (by kernel_rfl)) ?_
           refine tst12 (i := 1) (N := some 28) (bz 30 327) (take_ofW HT_.out HW_.out (by kernel_rfl)) hHeld ?_
           refine pst (i := 3) (N := some 30) (bz 30 335) (any_of HT_.out (by kernel_rfl)) ?_
           refine pst (i := 4) (N := some 31) (bz 30 351) (any_of HT_.out (by kernel_rfl)) ?_
           refine tst12 (i := 5) (N := some 32) (bz 30 383) (take_ofW HT_.out HW_.out (by kernel_rfl)) hHeld ?_
           refine tst12 (i := 7) (N := some 34) (bz 30 511) (take_ofW HT_.out HW_.out (by kernel_rfl)) hHeld ?_
           refine pst (i := 9) (N := some 36) (bz 30 1023) (any_of HT_.out (by kernel_rfl)) ?_
           refine pst (i := 10) (N := some 37) (bz 30 2047) (any_of HT_.out (by kernel_rfl)) ?_
           refine tst12 (i := 11) (N := some 38) (bz 30 4095) (take_ofW HT_.out HW_.out (by kernel_rfl)) hHeld ?_
           refine one_ (i := 12) (N := some 39) #[true, true, true, true, true, true, true, true, true, true, true, true, true, false, false, false, false, false, false, false, false, false, false, false, false, false, false, false, false, false] rfl rfl (one_of HT_.out (by kernel_rfl)) (by decide) (fun K hK => ?_)
           refine goes_ Try.func27 (by kernel_rfl) rfl #[.slice A385_0 ((rd_T64 l0_1 x5_2).f0).length c385_0, .slice A386_0 ((rd_T64 l1_1 x5_2).f0).length c386_0] (by rfl) rfl rfl mapz ?_
           with_reducible refine (dropperlaw06_SameInts.calls k2 _ _ ((rd_T64 l0_1 x5_2).f0) _ _ ((rd_T64 l1_1 x5_2).f0) true _ ?side1 ?side2 ?side3 ?side4 A17.out).mono ?_
           (case side1 => exact cbz HR385_0)
           (case side2 => exact HC385_0.out)
           (case side3 => exact cbz HR386_0)
           (case side4 => exact HC386_0.out)
           rintro e w' ⟨rfl, ⟨nd, rfl⟩⟩
           refine ⟨_, rfl, ?_⟩
           refine hK.out _ _ ⟨(blk_cell BK383.out 0).trans rfl, (blk_cell BK383.out 1).trans rfl, (blk_cell BK384.out 0).trans rfl, (blk_cell BK384.out 1).trans rfl, ((HB.out.cell (World.block_lt_of_cell? w _ hw385_0)).trans hw385_0), ((HB.out.cell (World.block_lt_of_cell? w _ hw385_1)).trans hw385_1), ((HB.out.cell (World.block_lt_of_cell? w _ hw386_0)).trans hw386_0), ((HB.out.cell (World.block_lt_of_cell? w _ hw386_1)).trans hw386_1), ((HB.out.cell (World.block_lt_of_cell? w _ hw388_0)).trans hw388_0), ((HB.out.cell (World.block_lt_of_cell? w _ hw388_1)).trans hw388_1), ((HB.out.cell (World.block_lt_of_cell? w _ hw389_0)).trans hw389_0), ((HB.out.cell (World.block_lt_of_cell? w _ hw389_1)).trans hw389_1)⟩ (fun hHeld => ?_)
           clear hK K
           refine norm_ (a' := ?_) ?_ ?_
           rotate_left
           ·
            show Act.put _ (some 39) _ = _
            simp only [Act.put, List.setIfInBounds_toArray, List.set_cons_zero, List.set_cons_succ, i64_w, i32_w]
            rfl
           refine pst (i := 13) (N := some 40) (bz 30 16383) (any_of HT_.out (by kernel_rfl)) ?_
           refine pst (i := 14) (N := some 41) (bz 30 32767) (any_of HT_.out (by kernel_rfl)) ?_
           refine pst (i := 15) (N := some 42) (bz 30 65535) (any_of HT_.out (by kernel_rfl)) ?_
           refine pst (i := 17) (N := some 44) (bz 30 196607) (any_of HT_.out (by kernel_rfl)) ?_
           refine pst (i := 21) (N := some 48) (bz 30 2293759) (any_of HT_.out (by kernel_rfl)) ?_
           refine pst (i := 23) (N := some 50) (bz 30 10682367) (any_of HT_.out (by kernel_rfl)) ?_
           refine tst12 (i := 16) (N := some 43) (bz 30 10747903) (take_ofW HT_.out HW_.out (by kernel_rfl)) hHeld ?_
           refine pst (i := 18) (N := some 45) (bz 30 11010047) (any_of HT_.out (by kernel_rfl)) ?_
           refine pst (i := 19) (N := some 46) (bz 30 11534335) (any_of HT_.out (by kernel_rfl)) ?_
           refine tst12 (i := 20) (N := some 47) (bz 30 12582911) (take_ofW HT_.out HW_.out (by kernel_rfl)) hHeld ?_
           refine tst12 (i := 22) (N := some 49) (bz 30 16777215) (take_ofW HT_.out HW_.out (by kernel_rfl)) hHeld ?_
           refine pst (i := 24) (N := some 51) (bz 30 33554431) (any_of HT_.out (by kernel_rfl)) ?_
           refine pst (i := 25) (N := some 52) (bz 30 67108863) (any_of HT_.out (by kernel_rfl)) ?_
           refine tst12 (i := 26) (N := some 53) (bz 30 134217727) (take_ofW HT_.out HW_.out (by kernel_rfl)) hHeld ?_
           refine one_ (i := 27) (N := some 54) #[true, true, true, true, true, true, true, true, true, true, true, true, true, true, true, true, true, true, true, true, true, true, true, true, true, true, true, true, false, false] rfl rfl (one_of HT_.out (by kernel_rfl)) (by decide) (fun K hK => ?_)
           refine goes_ Try.func27 (by kernel_rfl) rfl #[.slice A385_1 ((rd_T64 l0_1 x5_2).f1).length c385_1, .slice A386_1 ((rd_T64 l1_1 x5_2).f1).length c386_1] (by rfl) rfl rfl mapz ?_
           with_reducible refine (dropperlaw06_SameInts.calls k2 _ _ ((rd_T64 l0_1 x5_2).f1) _ _ ((rd_T64 l1_1 x5_2).f1) false _ ?side1 ?side2 ?side3 ?side4 A19.out).mono ?_
           (case side1 => repeat (first | exact (Kd.C_below HR388_1.out bel) | (with_reducible refine Kd.C_alloc ?_ _) | (with_reducible refine Kd.C_drewN ?_ _) | (with_reducible refine Kd.C_drew ?_)))
           (case side2 => exact HC388_1.out)
           (case side3 => repeat (first | exact (Kd.C_below HR389_1.out bel) | (with_reducible refine Kd.C_alloc ?_ _) | (with_reducible refine Kd.C_drewN ?_ _) | (with_reducible refine Kd.C_drew ?_)))
           (case side4 => exact HC389_1.out)
           rintro e w' ⟨rfl, ⟨nd, rfl⟩⟩
           refine ⟨_, rfl, ?_⟩
           refine hK.out _ _ ⟨(blk_cell BK383.out 0).trans rfl, (blk_cell BK383.out 1).trans rfl, (blk_cell BK384.out 0).trans rfl, (blk_cell BK384.out 1).trans rfl, ((HB.out.cell (World.block_lt_of_cell? w _ hw385_0)).trans hw385_0), ((HB.out.cell (World.block_lt_of_cell? w _ hw385_1)).trans hw385_1), ((HB.out.cell (World.block_lt_of_cell? w _ hw386_0)).trans hw386_0), ((HB.out.cell (World.block_lt_of_cell? w _ hw386_1)).trans hw386_1), ((HB.out.cell (World.block_lt_of_cell? w _ hw388_0)).trans hw388_0), ((HB.out.cell (World.block_lt_of_cell? w _ hw388_1)).trans hw388_1), ((HB.out.cell (World.block_lt_of_cell? w _ hw389_0)).trans hw389_0), ((HB.out.cell (World.block_lt_of_cell? w _ hw389_1)).trans hw389_1)⟩ (fun hHeld => ?_)
           clear hK K
           refine norm_ (a' := ?_) ?_ ?_
           rotate_left
           ·
            show Act.put _ (some 54) _ = _
            simp only [Act.put, List.setIfInBounds_toArray, List.set_cons_zero, List.set_cons_succ, i64_w, i32_w]
            rfl
           refine pst (i := 28) (N := some 55) (bz 30 536870911) (any_of HT_.out (by kernel_rfl)) ?_
           refine pst (i := 29) (N := some 56) (bz 30 1073741823) (any_of HT_.out (by kernel_rfl)) ?_
           refine done_ (done_of HT_.out (by kernel_rfl)) ?_
           try go_wp2
           go_ret
           exact ⟨ezz, bel⟩
         ·
          replace c18 := Bool.eq_false_iff.mpr c18
          subst c18
          rw [if_neg (show ¬ (false = true) by decide)] at H
          obtain rfl := Option.some.inj H
          have hnb27 := NB383_384.out
          have hnc27 := NB384_383.out
          obtain ⟨hcz28_0, hcz28_1⟩ := bc2 BK383.out
          obtain ⟨hfz28_0, hfz28_1⟩ := bf2 BK383.out
          try go_wp2
          have n0_ := Aside0.mk (blk_drew BK383.out)
          have n1_ := Aside0.mk (blk_drew BK384.out)
          have n2_ := Aside0.mk (below_drew1 HB.out)
          clear BK383
          clear BK384
          clear HB
          have BK383 := n0_
          have BK384 := n1_
          have HB := n2_
          clear n0_ n1_ n2_
          have p385 : 0 ≤ (x5_2 : Int) := of_decide_eq_true asz
          have q385 : x5_2 < (l0_1.length : Int) := of_decide_eq_true asz
          obtain ⟨ad385, A385_0, c385_0, A385_1, c385_1, e385, hx385_0, hx385_1, hl385_0, hi385_0, hl385_1, hi385_1⟩ := at_T64 HR0_1.out x5_2 p385 q385
          have hw385_1 := hx385_1
          have hw385_0 := hx385_0
          cases e385
          replace hx385_0 := (HB.out.cell (World.block_lt_of_cell? w _ hx385_0)).trans hx385_0
          replace hx385_1 := (HB.out.cell (World.block_lt_of_cell? w _ hx385_1)).trans hx385_1
          have HR385_0 := Aside0.mk hi385_0
          have HC385_0 := Aside0.mk hl385_0
          clear hi385_0 hl385_0
          have HR385_1 := Aside0.mk hi385_1
          have HC385_1 := Aside0.mk hl385_1
          clear hi385_1 hl385_1
          replace p385 := eq_true p385
          replace q385 := eq_true q385
          have p386 : 0 ≤ (x5_2 : Int) := of_decide_eq_true asz
          have q386 : x5_2 < (l1_1.length : Int) := of_decide_eq_true asz
          obtain ⟨ad386, A386_0, c386_0, A386_1, c386_1, e386, hx386_0, hx386_1, hl386_0, hi386_0, hl386_1, hi386_1⟩ := at_T64 HR1_1.out x5_2 p386 q386
          have hw386_1 := hx386_1
          have hw386_0 := hx386_0
          cases e386
          replace hx386_0 := (HB.out.cell (World.block_lt_of_cell? w _ hx386_0)).trans hx386_0
          replace hx386_1 := (HB.out.cell (World.block_lt_of_cell? w _ hx386_1)).trans hx386_1
          have HR386_0 := Aside0.mk hi386_0
          have HC386_0 := Aside0.mk hl386_0
          clear hi386_0 hl386_0
          have HR386_1 := Aside0.mk hi386_1
          have HC386_1 := Aside0.mk hl386_1
          clear hi386_1 hl386_1
          replace p386 := eq_true p386
          replace q386 := eq_true q386
          refine start_ (n := 30) (S := fun w' => w'.cell? ⟨gb383, 0, none⟩ = some (.int .i64 a0_0) ∧ w'.cell? ⟨gb383, 1, none⟩ = some (.slice (some ad385) l0_1.length c0_1) ∧ w'.cell? ⟨gb384, 0, none⟩ = some (.int .i64 a1_0) ∧ w'.cell? ⟨gb384, 1, none⟩ = some (.slice (some ad386) l1_1.length c1_1) ∧ w'.cell? (ad385.add ((x5_2).toNat * 2)) = some (.slice A385_0 ((rd_T64 l0_1 x5_2).f0).length c385_0) ∧ w'.cell? ⟨(ad385.add ((x5_2).toNat * 2)).block, (ad385.add ((x5_2).toNat * 2)).off + 1, none⟩ = some (.slice A385_1 ((rd_T64 l0_1 x5_2).f1).length c385_1) ∧ w'.cell? (ad386.add ((x5_2).toNat * 2)) = some (.slice A386_0 ((rd_T64 l1_1 x5_2).f0).length c386_0) ∧ w'.cell? ⟨(ad386.add ((x5_2).toNat * 2)).block, (ad386.add ((x5_2).toNat * 2)).off + 1, none⟩ = some (.slice A386_1 ((rd_T64 l1_1 x5_2).f1).length c386_1)) (ds := []) #[false, false, false, false, false, false, false, false, false, false, false, false, false, false, false, false, false, false, false, false, false, false, false, false, false, false, false, false, false, false] (by kernel_rfl) rfl rfl ⟨(blk_cell BK383.out 0).trans rfl, (blk_cell BK383.out 1).trans rfl, (blk_cell BK384.out 0).trans rfl, (blk_cell BK384.out 1).trans rfl, ((HB.out.cell (World.block_lt_of_cell? w _ hw385_0)).trans hw385_0), ((HB.out.cell (World.block_lt_of_cell? w _ hw385_1)).trans hw385_1), ((HB.out.cell (World.block_lt_of_cell? w _ hw386_0)).trans hw386_0), ((HB.out.cell (World.block_lt_of_cell? w _ hw386_1)).trans hw386_1)⟩ (fun hHeld => ?_); refine with_tabW dropperlaw06_sameBoards.tab6 dropperlaw06_sameBoards.bits6 (fun HT_ HW_ => ?_)
          generalize wr.drew = w29 at BK383 BK384 HB HR385_0 HR385_1 HR386_0 HR386_1 hx385_0 hx385_1 hx386_0 hx386_1 hHeld ⊢
          refine pst (i := 0) (N := some 27) (bz 30 1) (any_of HT_.out (by kernel_rfl)) ?_
          refine pst (i := 2) (N := some 29) (bz 30 5) (any_of HT_.out (by kernel_rfl)) ?_
          refine pst (i := 6) (N := some 33) (bz 30 69) (any_of HT_.out (by kernel_rfl)) ?_
          refine pst (i := 8) (N := some 35) (bz 30 325) (any_of HT_.out (by kernel_rfl)) ?_
          refine tst8 (i := 1) (N := some 28) (bz 30 327) (take_ofW HT_.out HW_.out (by kernel_rfl)) hHeld ?_
          refine pst (i := 3) (N := some 30) (bz 30 335) (any_of HT_.out (by kernel_rfl)) ?_
          refine pst (i := 4) (N := some 31) (bz 30 351) (any_of HT_.out (by kernel_rfl)) ?_
          refine tst8 (i := 5) (N := some 32) (bz 30 383) (take_ofW HT_.out HW_.out (by kernel_rfl)) hHeld ?_
          refine tst8 (i := 7) (N := some 34) (bz 30 511) (take_ofW HT_.out HW_.out (by kernel_rfl)) hHeld ?_
          refine pst (i := 9) (N := some 36) (bz 30 1023) (any_of HT_.out (by kernel_rfl)) ?_
          refine pst (i := 10) (N := some 37) (bz 30 2047) (any_of HT_.out (by kernel_rfl)) ?_
          refine tst8 (i := 11) (N := some 38) (bz 30 4095) (take_ofW HT_.out HW_.out (by kernel_rfl)) hHeld ?_
          refine one_ (i := 12) (N := some 39) #[true, true, true, true, true, true, true, true, true, true, true, true, true, false, false, false, false, false, false, false, false, false, false, false, false, false, false, false, false, false] rfl rfl (one_of HT_.out (by kernel_rfl)) (by decide) (fun K hK => ?_)
          refine goes_ Try.func27 (by kernel_rfl) rfl #[.slice A385_0 ((rd_T64 l0_1 x5_2).f0).length c385_0, .slice A386_0 ((rd_T64 l1_1 x5_2).f0).length c386_0] (by rfl) rfl rfl mapz ?_
          with_reducible refine (dropperlaw06_SameInts.calls k2 _ _ ((rd_T64 l0_1 x5_2).f0) _ _ ((rd_T64 l1_1 x5_2).f0) false _ ?side1 ?side2 ?side3 ?side4 A17.out).mono ?_
          (case side1 => exact cbz HR385_0)
          (case side2 => exact HC385_0.out)
          (case side3 => exact cbz HR386_0)
          (case side4 => exact HC386_0.out)
          rintro e w' ⟨rfl, ⟨nd, rfl⟩⟩
          refine ⟨_, rfl, ?_⟩
          refine hK.out _ _ ⟨(blk_cell BK383.out 0).trans rfl, (blk_cell BK383.out 1).trans rfl, (blk_cell BK384.out 0).trans rfl, (blk_cell BK384.out 1).trans rfl, ((HB.out.cell (World.block_lt_of_cell? w _ hw385_0)).trans hw385_0), ((HB.out.cell (World.block_lt_of_cell? w _ hw385_1)).trans hw385_1), ((HB.out.cell (World.block_lt_of_cell? w _ hw386_0)).trans hw386_0), ((HB.out.cell (World.block_lt_of_cell? w _ hw386_1)).trans hw386_1)⟩ (fun hHeld => ?_)
          clear hK K
          refine norm_ (a' := ?_) ?_ ?_
          rotate_left
          ·
           show Act.put _ (some 39) _ = _
           simp only [Act.put, List.setIfInBounds_toArray, List.set_cons_zero, List.set_cons_succ, i64_w, i32_w]
           rfl
          refine pst (i := 13) (N := some 40) (bz 30 16383) (any_of HT_.out (by kernel_rfl)) ?_
          refine pst (i := 14) (N := some 41) (bz 30 32767) (any_of HT_.out (by kernel_rfl)) ?_
          refine pso (i := 15) (N := some 42) (bz 30 65535) (any_of HT_.out (by kernel_rfl)) ?_
          refine pso (i := 16) (N := some 43) (bz 30 131071) (any_of HT_.out (by kernel_rfl)) ?_
          refine pso (i := 17) (N := some 44) (bz 30 262143) (any_of HT_.out (by kernel_rfl)) ?_
          refine pso (i := 18) (N := some 45) (bz 30 524287) (any_of HT_.out (by kernel_rfl)) ?_
          refine pso (i := 19) (N := some 46) (bz 30 1048575) (any_of HT_.out (by kernel_rfl)) ?_
          refine pso (i := 20) (N := some 47) (bz 30 2097151) (any_of HT_.out (by kernel_rfl)) ?_
          refine pso (i := 21) (N := some 48) (bz 30 4194303) (any_of HT_.out (by kernel_rfl)) ?_
          refine pso (i := 22) (N := some 49) (bz 30 8388607) (any_of HT_.out (by kernel_rfl)) ?_
          refine pso (i := 23) (N := some 50) (bz 30 16777215) (any_of HT_.out (by kernel_rfl)) ?_
          refine pso (i := 24) (N := some 51) (bz 30 33554431) (any_of HT_.out (by kernel_rfl)) ?_
          refine pso (i := 25) (N := some 52) (bz 30 67108863) (any_of HT_.out (by kernel_rfl)) ?_
          refine pso (i := 26) (N := some 53) (bz 30 134217727) (any_of HT_.out (by kernel_rfl)) ?_
          refine pso (i := 27) (N := some 54) (bz 30 268435455) (any_of HT_.out (by kernel_rfl)) ?_
          refine pso (i := 28) (N := some 55) (bz 30 536870911) (any_of HT_.out (by kernel_rfl)) ?_
          refine pst (i := 29) (N := some 56) (bz 30 1073741823) (any_of HT_.out (by kernel_rfl)) ?_
          refine done_ (done_of HT_.out (by kernel_rfl)) ?_
          try go_wp2
          go_ret
          exact ⟨ezz, bel⟩
        ·
         rw [if_neg c16] at H
         exact absurd H (by simp)
       ·
        rw [if_neg c15] at H
        exact absurd H (by simp)
      ·
       rw [if_neg c14] at H
       have c14b0 : decide (x5_2 < (l0_1.length : Int)) = false := decide_eq_false c14
       clear c14
       obtain rfl := Option.some.inj H
       have hnb30 := NB383_384.out
       have hnc30 := NB384_383.out
       obtain ⟨hcz31_0, hcz31_1⟩ := bc2 BK383.out
       obtain ⟨hfz31_0, hfz31_1⟩ := bf2 BK383.out
       go_wp2
       go_ret
       exact ⟨ezz, bel⟩

end Go.Proofs.Ytgdfakmlpdeabaa.XKey
/- Weights: program and reference reckon alike. -/
namespace Go.Proofs.Ytgdfakmlpdeabaa.Keys
set_option linter.unusedVariables false
set_option linter.unusedSimpArgs false
open Go.RowKit Go.Proofs.Ytgdfakmlpdeabaa.XKey Go.Proofs.YtgdfakmlpdeabaaW.PrintWords Go.Proofs.YtgdfakmlpdeabaaW.PrintLast Go.Proofs.YtgdfakmlpdeabaaW.PrintMore
def dot : Int → List Int → List Int → Int
 | s, x :: xs, y :: ys => dot (wrap64 (s + wrap64 (x * y))) xs ys
 | s, _, _ => s
theorem sum_ev (a b : List Int) (h : a.length = b.length) (hl : a.length ≤ 9223372036854775807) : Ev (fun k => key_sum.f k a b) (dot 0 a b) := by
 unfold key_sum.f
 have H : ∀ (d i : Nat) (s : Int), i + d = a.length → Ev (fun k => key_sum.l0 k b s a (a.length : Int) (i : Int)) (dot s (a.drop i) (b.drop i)) := by
  intro d
  induction d with
  | zero =>
   intro i s hi
   rw [List.drop_eq_nil_of_le (by omega : a.length ≤ i)]
   refine Ev.step (fun k => by rw [key_sum.l0]) (ev_neg (by omega) ?_)
   rw [dot]
   ·
    exact Ev.now _
   ·
    intro _ _ _ _ h; cases h
  | succ d ih =>
   intro i s hi
   refine Ev.step (fun k => by rw [key_sum.l0]) (ev_pos (by omega) (ev_pos (by omega) (ev_pos (by omega) (ev_pos (by omega) ?_))))
   rw [List.drop_eq_getElem_cons (by omega : i < a.length), List.drop_eq_getElem_cons (by omega : i < b.length), dot, rd_at a i (by omega), rd_at b i (by omega), wrap_succ (l := a.length) i (by omega) hl]
   exact ih (i + 1) _ (by omega)
 exact H a.length 0 0 (by omega)
theorem product_ev (a b : List Int) (h : a.length = b.length) (hl : a.length ≤ 9223372036854775807) : Ev (fun k => dropperref06_product.f k a b) (dot 0 a b) := by
 unfold dropperref06_product.f
 have H : ∀ (d i : Nat) (s : Int), i + d = a.length → Ev (fun k => dropperref06_product.l0 k a b s (i : Int)) (dot s (a.drop i) (b.drop i)) := by
  intro d
  induction d with
  | zero =>
   intro i s hi
   rw [List.drop_eq_nil_of_le (by omega : a.length ≤ i)]
   refine Ev.step (fun k => by rw [dropperref06_product.l0]) (ev_neg (by omega) ?_)
   rw [dot]
   ·
    exact Ev.now _
   ·
    intro _ _ _ _ h; cases h
  | succ d ih =>
   intro i s hi
   refine Ev.step (fun k => by rw [dropperref06_product.l0]) (ev_pos (by omega) (ev_pos (by omega) (ev_pos (by omega) ?_)))
   rw [List.drop_eq_getElem_cons (by omega : i < a.length), List.drop_eq_getElem_cons (by omega : i < b.length), dot, rd_at a i (by omega), rd_at b i (by omega), wrap_succ (l := a.length) i (by omega) hl]
   exact ih (i + 1) _ (by omega)
 exact H a.length 0 0 (by omega)
def holdsS (w : List Int) (ts : List S64) : Bool := ts.all fun t => decide (dot 0 w t.f0 = dot 0 w t.f1)
def fitW (n : Int) (w : List Int) : Bool := okL n (-20000) 20000 w
theorem holds_ev {n : Int} {w : List Int} (hn : n ≤ 6) (hw : (w.length : Int) = n) (m : Int) : ∀ {ts : List S64}, (∀ t ∈ ts, okT n t = true) → Ev (fun k => key_holds.f k m ts w) (holdsS w ts)
 | [], _ => Ev.congr (f := fun _ => some true) (fun k => by rw [key_holds.f, key_holds.go]) (Ev.now _)
 | t :: ts, h => by
  obtain ⟨⟨a, b⟩, c, d⟩ := (okT_iff n t).1 (h t (List.mem_cons_self ..))
  have ih := holds_ev hn hw m (ts := ts) (fun x hx => h x (List.mem_cons_of_mem _ hx))
  refine Ev.congr (fun k => by rw [key_holds.f, key_holds.go]) ?_
  refine ev_bind1 (sum_ev w t.f0 (by omega) (by omega)) (ev_bind1 (sum_ev w t.f1 (by omega) (by omega)) ?_)
  exact ev_bind1 (g := fun k => key_holds.go k w ts) ih (Ev.now _)
theorem rholds_ev {n : Int} {w : List Int} (hn : n ≤ 6) (hw : (w.length : Int) = n) (m : Int) {ts : List S64} (h8 : ts.length ≤ 8) (hts : ∀ t ∈ ts, okT n t = true) : Ev (fun k => dropperref06_holds.f k m ts w) (holdsS w ts) := by
 unfold dropperref06_holds.f holdsS
 refine ev_loop (l := ts) (by omega) (F := fun k i => dropperref06_holds.l0 k w i m ts) (fun r => r.all fun t => decide (dot 0 w t.f0 = dot 0 w t.f1)) ?_ ?_
 ·
  refine Ev.step (fun k => by rw [dropperref06_holds.l0]) (ev_neg (by omega) ?_); exact Ev.now _
 ·
  intro i h hwr ih
  obtain ⟨⟨a, b⟩, c, d⟩ := (okT_iff n ts[i]).1 (hts _ (List.getElem_mem h))
  refine Ev.step (fun k => by rw [dropperref06_holds.l0]) (ev_pos (by omega) (ev_pos (by omega) ?_))
  rw [rd_S ts i h, List.all_cons]
  refine ev_bind1 (product_ev w _ (by omega) (by omega)) (ev_bind1 (product_ev w _ (by omega) (by omega)) ?_)
  by_cases hc : dot 0 w ts[i].f0 = dot 0 w ts[i].f1
  ·
   rw [decide_eq_true hc, Bool.true_and]; refine ev_pos hc ?_; rw [hwr]; exact ih
  ·
   rw [decide_eq_false hc, Bool.false_and]; exact ev_neg hc (Ev.now _)
def weighS (n : Int) (ts : List S64) (w : List Int) (ls : List (List Int)) : Int := if asks n ts ls = 0 then (if fitW n w = true then 0 else 2) else asks n ts ls
theorem weighed_val (n : Int) (ts : List S64) (w : List Int) (ls : List (List Int)) : key_weighed.f n ts w ls = some (weighS n ts w ls) := by
 unfold key_weighed.f weighS
 rw [open_val, Option.bind_some]
 by_cases h : asks n ts ls = 0
 ·
  rw [if_pos h, if_pos h, isList_val, Option.bind_some, ← fitW]
  cases fitW n w with
  | true => rw [if_pos rfl, if_pos rfl, h]
  | false => rfl
 ·
  rw [if_neg h, if_neg h]
theorem Weights_ev (n : Int) (ts : List S64) (w : List Int) (hl : w.length ≤ 9223372036854775807) : Ev (fun k => dropperref06_Weights.f k n ts w) (fitW n w) := by
 unfold dropperref06_Weights.f
 exact ev_bind1 (rlist_ev w n (-20000) 20000 hl) (Ev.now _)
theorem weigh_zero {n : Int} {ts : List S64} {w : List Int} {ls : List (List Int)} (h : weighS n ts w ls = 0) : asks n ts ls = 0 ∧ fitW n w = true := by
 unfold weighS at h
 split at h
 ·
  rename_i h1
  split at h
  ·
   rename_i h2; exact ⟨h1, h2⟩
  ·
   omega
 ·
  rename_i h1; exact absurd h h1
def HoldsS (n : Int) (ts : List S64) (w : List Int) : Bool × Int := if weighS n ts w [] = 0 then (holdsS w ts, 0) else (false, weighS n ts w [])
theorem fitW_len {n : Int} {w : List Int} (h : fitW n w = true) : (w.length : Int) = n := ((okL_iff _ _ _ _).1 h).1
theorem Holds_ev (n : Int) (ts : List S64) (w : List Int) : Ev (fun k => key_Holds.f k n ts w) (HoldsS n ts w) := by
 unfold key_Holds.f HoldsS
 refine ev_val (weighed_val n ts w []) ?_
 by_cases h : weighS n ts w [] = 0
 ·
  obtain ⟨h1, h2⟩ := weigh_zero h
  obtain ⟨⟨b1, b2⟩, b3, b4⟩ := (okB_iff n ts).1 (asks_zero h1).1
  rw [if_pos h]
  exact ev_pos h (ev_bind1 (holds_ev b2 (fitW_len h2) n b4) (Ev.now _))
 ·
  rw [if_neg h]; exact ev_neg h (Ev.now _)
theorem rHolds_ev (n : Int) (ts : List S64) (w : List Int) (hf : Fits ts) (hl : w.length ≤ 9223372036854775807) : Ev (fun k => dropperref06_Holds.f k n ts w) (HoldsS n ts w) := by
 unfold dropperref06_Holds.f HoldsS weighS asks
 refine ev_bind1 (rValid_ev n ts hf) ?_
 cases hb : okB n ts with
 | false => exact ev_neg (by decide) (Ev.now _)
 | true =>
  refine ev_pos rfl (ev_bind1 (Weights_ev n ts w hl) ?_)
  cases hw : fitW n w with
  | false => exact ev_neg (by decide) (Ev.now _)
  | true =>
   obtain ⟨⟨b1, b2⟩, b3, b4⟩ := (okB_iff n ts).1 hb
   exact ev_pos rfl (ev_bind1 (rholds_ev b2 (fitW_len hw) n b3 b4) (Ev.now _))
def SumS (n : Int) (ts : List S64) (w l : List Int) : Int × Int := if weighS n ts w [l] = 0 then (dot 0 w l, 0) else (0, weighS n ts w [l])
theorem Sum_ev (n : Int) (ts : List S64) (w l : List Int) : Ev (fun k => key_Sum.f k n ts w l) (SumS n ts w l) := by
 unfold key_Sum.f SumS
 refine ev_val (weighed_val n ts w [l]) ?_
 by_cases h : weighS n ts w [l] = 0
 ·
  obtain ⟨h1, h2⟩ := weigh_zero h
  obtain ⟨⟨b1, b2⟩, b3, b4⟩ := (okB_iff n ts).1 (asks_zero h1).1
  have h3 := fitW_len h2; have h4 := (St.of ((asks_zero h1).2 l (by simp))).len
  rw [if_pos h]
  exact ev_pos h (ev_bind1 (sum_ev w l (by omega) (by omega)) (Ev.now _))
 ·
  rw [if_neg h]; exact ev_neg h (Ev.now _)
theorem rSum_ev (n : Int) (ts : List S64) (w l : List Int) (hf : Fits ts) (hw : w.length ≤ 9223372036854775807) (hl : l.length ≤ 9223372036854775807) : Ev (fun k => dropperref06_Sum.f k n ts w l) (SumS n ts w l) := by
 unfold dropperref06_Sum.f SumS weighS
 refine ev_bind1 (asked_ev n ts [l] hf (by simp) (by simpa using hl)) ?_
 by_cases h1 : asks n ts [l] = 0
 ·
  rw [if_pos h1]
  refine ev_pos h1 (ev_bind1 (Weights_ev n ts w hw) ?_)
  cases h2 : fitW n w with
  | false => exact ev_neg (by decide) (Ev.now _)
  | true =>
   obtain ⟨⟨b1, b2⟩, b3, b4⟩ := (okB_iff n ts).1 (asks_zero h1).1
   have h3 := fitW_len h2; have h4 := (St.of ((asks_zero h1).2 l (by simp))).len
   exact ev_pos rfl (ev_bind1 (product_ev w l (by omega) (by omega)) (Ev.now _))
 ·
  rw [if_neg h1, if_neg h1]; exact ev_neg h1 (Ev.now _)
/-! ### Proves -/
theorem min_foldl : ∀ (l : List Int) (m : Int), 0 ≤ l.foldl min m ↔ 0 ≤ m ∧ ∀ x ∈ l, 0 ≤ x
 | [], m => by simp
 | x :: l, m => by
  rw [List.foldl_cons, min_foldl l (min m x)]
  simp only [List.mem_cons, forall_eq_or_imp]
  constructor
  ·
   rintro ⟨h1, h2⟩; exact ⟨by omega, by omega, h2⟩
  ·
   rintro ⟨h1, h2, h3⟩; exact ⟨by omega, h3⟩
theorem min_iff {l : List Int} (h : l ≠ []) : 0 ≤ Lib.minOf l ↔ ∀ x ∈ l, 0 ≤ x := by
 unfold Lib.minOf
 rw [min_foldl]
 constructor
 ·
  exact fun h => h.2
 ·
  intro h2
  refine ⟨?_, h2⟩
  cases l with
  | nil => exact absurd rfl h
  | cons x l => exact h2 x (List.mem_cons_self ..)
theorem pos_iff {n : Int} {w : List Int} (h1 : 1 ≤ n) (h : fitW n w = true) : okL n 0 20000 w = decide (0 ≤ Lib.minOf w) := by
 obtain ⟨a, b⟩ := (okL_iff _ _ _ _).1 h
 have hne : w ≠ [] := by intro e; subst e; simp at a; omega
 rw [Bool.eq_iff_iff, okL_iff, decide_eq_true_eq, min_iff hne]
 constructor
 ·
  exact fun h x hx => (h.2 x hx).1
 ·
  exact fun h2 => ⟨a, fun x hx => ⟨h2 x hx, (b x hx).2⟩⟩
def ProvesS (n : Int) (ts : List S64) (w l m : List Int) : Bool × Int := if weighS n ts w [l, m] = 0 then (holdsS w ts && (decide (0 ≤ Lib.minOf w) && decide (dot 0 w m > dot 0 w l)), 0) else (false, weighS n ts w [l, m])
theorem Proves_ev (n : Int) (ts : List S64) (w l m : List Int) : Ev (fun k => key_Proves.f k n ts w l m) (ProvesS n ts w l m) := by
 unfold key_Proves.f ProvesS
 refine ev_val (weighed_val n ts w [l, m]) ?_
 by_cases h : weighS n ts w [l, m] = 0
 ·
  obtain ⟨h1, h2⟩ := weigh_zero h
  obtain ⟨⟨b1, b2⟩, b3, b4⟩ := (okB_iff n ts).1 (asks_zero h1).1
  have h3 := fitW_len h2; have h4 := (St.of ((asks_zero h1).2 l (by simp))).len; have h5 := (St.of ((asks_zero h1).2 m (by simp))).len
  have hne : w ≠ [] := by intro e; subst e; simp at h3; omega
  rw [if_pos h]
  refine ev_pos h (ev_bind1 (holds_ev b2 h3 n b4) ?_)
  cases holdsS w ts with
  | false => exact ev_neg (by decide) (Ev.now _)
  | true =>
   refine ev_pos rfl (ev_val (show slices_Min_int_int.f w = some (Lib.minOf w) from if_neg hne) ?_)
   by_cases h6 : 0 ≤ Lib.minOf w
   ·
    rw [decide_eq_true h6]
    exact ev_pos h6 (ev_bind1 (sum_ev w m (by omega) (by omega)) (ev_bind1 (sum_ev w l (by omega) (by omega)) (Ev.now _)))
   ·
    rw [decide_eq_false h6]; exact ev_neg h6 (Ev.now _)
 ·
  rw [if_neg h]; exact ev_neg h (Ev.now _)
theorem rProves_ev (n : Int) (ts : List S64) (w l m : List Int) (hf : Fits ts) (hw : w.length ≤ 9223372036854775807) (hl : l.length ≤ 9223372036854775807) (hm : m.length ≤ 9223372036854775807) : Ev (fun k => dropperref06_Proves.f k n ts w l m) (ProvesS n ts w l m) := by
 unfold dropperref06_Proves.f ProvesS weighS
 refine ev_bind1 (asked_ev n ts [l, m] hf (by simp) (by simp; exact ⟨hl, hm⟩)) ?_
 by_cases h1 : asks n ts [l, m] = 0
 ·
  rw [if_pos h1]
  refine ev_pos h1 (ev_bind1 (Weights_ev n ts w hw) ?_)
  cases h2 : fitW n w with
  | false => exact ev_neg (by decide) (Ev.now _)
  | true =>
   obtain ⟨⟨b1, b2⟩, b3, b4⟩ := (okB_iff n ts).1 (asks_zero h1).1
   have h3 := fitW_len h2; have h4 := (St.of ((asks_zero h1).2 l (by simp))).len; have h5 := (St.of ((asks_zero h1).2 m (by simp))).len
   refine ev_pos rfl (ev_bind1 (rlist_ev w n 0 20000 hw) ?_)
   rw [pos_iff b1 h2]
   cases hp : decide (0 ≤ Lib.minOf w) with
   | false => rw [Bool.false_and, Bool.and_false]; exact ev_neg (by decide) (Ev.now _)
   | true =>
    refine ev_pos rfl (ev_bind1 (rholds_ev b2 h3 n b3 b4) ?_)
    cases holdsS w ts with
    | false => exact ev_neg (by decide) (Ev.now _)
    | true => exact ev_pos rfl (ev_bind1 (product_ev w m (by omega) (by omega)) (ev_bind1 (product_ev w l (by omega) (by omega)) (Ev.now _)))
 ·
  rw [if_neg h1, if_neg h1]; exact ev_neg h1 (Ev.now _)
/-! ### Turned -/
def turn (t : S64) : S64 := ⟨t.f1, t.f0⟩
def turned (ts : List S64) : List S64 := ts.map turn
theorem turned_turned (ts : List S64) : turned (turned ts) = ts := by simp [turned, turn, Function.comp_def]
theorem okT_turn (n : Int) (t : S64) : okT n (turn t) = okT n t := by simp [okT, turn, Bool.and_comm]
theorem okB_turned (n : Int) (ts : List S64) : okB n (turned ts) = okB n ts := by simp [okB, turned, List.all_map, Function.comp_def, okT_turn]
theorem holds_turned (w : List Int) (ts : List S64) : holdsS w (turned ts) = holdsS w ts := by
 rw [holdsS, turned, List.all_map, holdsS]
 congr 1
 funext t
 show decide (dot 0 w t.f1 = dot 0 w t.f0) = decide (dot 0 w t.f0 = dot 0 w t.f1)
 exact decide_eq_decide.2 eq_comm
def TurnedS (n : Int) (ts : List S64) : Int × List S64 × Int := if okB n ts = true then (n, turned ts, 0) else (0, [], 60)
theorem Clone_val (l : List Int) (h : l.length ≤ 6) : slices_Clone_int_int.f l = some l := if_pos (by omega)
theorem Turned_ev (n : Int) (ts : List S64) : Ev (fun k => key_Turned.f k n ts) (TurnedS n ts) := by
 unfold key_Turned.f TurnedS
 refine ev_val (open_val n ts []) ?_
 unfold asks
 cases hb : okB n ts with
 | false => exact ev_neg (by simp) (Ev.now _)
 | true =>
  obtain ⟨⟨b1, b2⟩, b3, b4⟩ := (okB_iff n ts).1 hb
  refine ev_pos rfl ?_
  have H : ∀ (d i : Nat) (acc : List S64), i + d = ts.length → acc.length ≤ i → Ev (fun k => key_Turned.l0 k ts (ts.length : Int) (i : Int) n acc) (n, acc ++ turned (ts.drop i), 0) := by
   intro d
   induction d with
   | zero =>
    intro i acc hi ha
    rw [List.drop_eq_nil_of_le (by omega : ts.length ≤ i), turned, List.map_nil, List.append_nil]
    refine Ev.step (fun k => by rw [key_Turned.l0]) (ev_neg (by omega) ?_); exact Ev.now _
   | succ d ih =>
    intro i acc hi ha
    have hlt : i < ts.length := by omega
    obtain ⟨⟨a, b⟩, c, e⟩ := (okT_iff n ts[i]).1 (b4 _ (List.getElem_mem hlt))
    refine Ev.step (fun k => by rw [key_Turned.l0]) (ev_pos (by omega) (ev_pos (by omega) (ev_pos (by omega) ?_)))
    rw [rd_S ts i hlt, wrap_succ (l := ts.length) i hlt (by omega)]
    refine ev_val (Clone_val _ (by omega)) (ev_val (Clone_val _ (by omega)) (ev_pos (by omega) ?_))
    have := ih (i + 1) (acc ++ [⟨ts[i].f1, ts[i].f0⟩]) (by omega) (by simp; omega)
    have e : acc ++ turned (ts.drop i) = (acc ++ [⟨ts[i].f1, ts[i].f0⟩]) ++ turned (ts.drop (i + 1)) := by rw [List.drop_eq_getElem_cons hlt]; unfold turned; rw [List.map_cons, List.append_assoc]; rfl
    rw [e]
    exact this
  have := H ts.length 0 [] (by omega) (by simp)
  simpa using this
theorem rTurned_ev (n : Int) (ts : List S64) (hf : Fits ts) : Ev (fun k => dropperref06_Turned.f k n ts) (TurnedS n ts) := by
 unfold dropperref06_Turned.f TurnedS
 refine ev_bind1 (rValid_ev n ts hf) ?_
 cases hb : okB n ts with
 | false => exact ev_neg (by decide) (Ev.now _)
 | true =>
  obtain ⟨⟨b1, b2⟩, b3, b4⟩ := (okB_iff n ts).1 hb
  refine ev_pos rfl ?_
  have H : ∀ (d i : Nat) (acc : List S64), i + d = ts.length → acc.length ≤ i → Ev (fun k => dropperref06_Turned.l0 k (i : Int) n ts n acc) (n, acc ++ turned (ts.drop i), 0) := by
   intro d
   induction d with
   | zero =>
    intro i acc hi ha
    rw [List.drop_eq_nil_of_le (by omega : ts.length ≤ i), turned, List.map_nil, List.append_nil]
    refine Ev.step (fun k => by rw [dropperref06_Turned.l0]) (ev_neg (by omega) ?_); exact Ev.now _
   | succ d ih =>
    intro i acc hi ha
    have hlt : i < ts.length := by omega
    obtain ⟨⟨a, b⟩, c, e⟩ := (okT_iff n ts[i]).1 (b4 _ (List.getElem_mem hlt))
    refine Ev.step (fun k => by rw [dropperref06_Turned.l0]) (ev_pos (by omega) (ev_pos (by omega) ?_))
    rw [rd_S ts i hlt, wrap_succ (l := ts.length) i hlt (by omega)]
    refine ev_some (ev_pos (by simp; omega) (ev_some (ev_pos (by simp; omega) (ev_pos (by omega) ?_))))
    have := ih (i + 1) (acc ++ [⟨ts[i].f1, ts[i].f0⟩]) (by omega) (by simp; omega)
    have e : acc ++ turned (ts.drop i) = (acc ++ [⟨ts[i].f1, ts[i].f0⟩]) ++ turned (ts.drop (i + 1)) := by rw [List.drop_eq_getElem_cons hlt]; unfold turned; rw [List.map_cons, List.append_assoc]; rfl
    rw [e]
    exact this
  have := H ts.length 0 [] (by omega) (by simp)
  simpa using this
theorem sameB_refl (n : Int) (ts : List S64) (hf : Fits ts) : Ev (fun k => dropperlaw06_sameBoards.f k n ts n ts) true := by
 unfold dropperlaw06_sameBoards.f
 refine ev_pos rfl ?_
 rw [show ((ts.length : Int) != (ts.length : Int)) = false by simp]
 refine Ev.step (fun k => by rw [dropperlaw06_sameBoards.j0]) ?_
 refine ev_neg (by decide) ?_
 refine ev_loop (l := ts) hf.1 (F := fun k i => dropperlaw06_sameBoards.l0 k i n ts n ts) (fun _ => true) ?_ ?_
 ·
  refine Ev.step (fun k => by rw [dropperlaw06_sameBoards.l0]) (ev_neg (by omega) ?_); exact Ev.now _
 ·
  intro i h hw ih
  have hfi := hf.2 ts[i] (List.getElem_mem h)
  refine Ev.step (fun k => by rw [dropperlaw06_sameBoards.l0]) (ev_pos (by omega) (ev_pos (by omega) (ev_pos (by omega) ?_)))
  rw [rd_S ts i h, hw]
  exact ev_bind1 (same_refl _ hfi.1) (ev_pos rfl (ev_bind1 (same_refl _ hfi.2) (ev_pos rfl ih)))
end Go.Proofs.Ytgdfakmlpdeabaa.Keys
