-- Written by wip/pack.py of this repo: texts of this claim, put together.
import Derived.Test.YtgdfakmlpdeabaaKKeyd
namespace Go.Proofs.Ytgdfakmlpdeabaa.XKey
open Go.RowKit Go.Proofs.YtgdfakmlpdeabaaW.PrintWords Go.Proofs.YtgdfakmlpdeabaaW.PrintLast Go.Proofs.YtgdfakmlpdeabaaW.PrintMore
attribute [local go_sem] max2_int min2_int max_two min_two max_three min_three max_four min_four   -- for this text's walks alone
set_option linter.unusedVariables false
set_option linter.unusedSimpArgs false
/-! ### key_Make: function 41 -/
def key_Make.f (a0_0 : Int) (l0_1 : List (S64)) (l1 : List Int) (a2 : Int) : Option (List Int × Int) := (key_open.f a0_0 l0_1 (([l1] : List (List Int)))).bind fun t441 => (if t441 = 0 then ((key_within.f 0 a2 (wrap64 ((l0_1.length : Int) - 1))).bind fun t442 => (if t442 = true then ((key_keysOf.f l1).bind fun bt443 => (if 0 ≤ a2 then (if a2 < (l0_1.length : Int) then ((key_keys_made.f bt443.1 bt443.2.1 bt443.2.2.1 bt443.2.2.2.1 bt443.2.2.2.2.1 bt443.2.2.2.2.2 ((rd_T64 l0_1 a2).f0) ((rd_T64 l0_1 a2).f1)).bind fun bt450 => (if bt450.2.2.2.2.2.2 = true then ((key_keys_list.f bt450.1 bt450.2.1 bt450.2.2.1 bt450.2.2.2.1 bt450.2.2.2.2.1 bt450.2.2.2.2.2.1 a0_0).bind fun t458 => (some (t458, 0))) else (some (([] : List Int), 5)))) else (none)) else (none))) else (some (([] : List Int), 2)))) else (some (([] : List Int), t441)))
def key_Make.T6 : Bool × List (List Nat × List Nat) := (true, [([], []), ([0], [0]), ([], []), ([2], [2]), ([], []), ([3, 4], [3, 4]), ([5], [5]), ([1, 6, 1], [1, 6]), ([7], [7]), ([8], [8]), ([8], [8]), ([], []), ([11, 9, 7, 0, 1, 2, 3, 4, 5, 6, 7, 8, 9, 11], [9, 11]), ([10, 12, 0, 1, 2, 3, 4, 5, 6, 7, 8, 9, 10, 11, 12], [10])])
def key_Make.B6 : List Nat := [0, 1, 0, 4, 0, 28, 60, 127, 255, 511, 511, 0, 3071, 8191]
theorem key_Make.tab6 : rtab .any (opsOf Try.f41 6) = key_Make.T6 := by kernel_rfl
theorem key_Make.bits6 : waitsOk key_Make.T6.2 key_Make.B6 = true := by kernel_rfl
set_option maxHeartbeats 8000000 in
set_option maxRecDepth 100000 in
theorem key_Make.calls (a0_0 : Int) (A0_1 : Option Addr) (c0_1 : Nat) (l0_1 : List (S64)) (P1_ : Nat → Prop) (A1 : Option Addr) (c1 : Nat) (l1 : List Int) (a2 : Int) (r1 : List Int) (r2 : Int) (w : World) (hr0_1 : Kd.C k64 w A0_1 l0_1.length l0_1) (hc0_1 : l0_1.length ≤ c0_1) (hs1 : Kd.V (Kd.int .i64) 3 w w.heap.size (fun k_ => P1_ k_) (.slice A1 l1.length c1) l1) (h : key_Make.f a0_0 l0_1 l1 a2 = some (r1, r2)) :
  Calls Try.prog 41 #[.agg #[.int .i64 a0_0, .slice A0_1 l0_1.length c0_1], .slice A1 l1.length c1, .int .i64 a2] w fun e w' => ∃ v0_ : Value, e = .returned (.tuple #[v0_, .int .i64 r2]) ∧ Kd.R (Kd.int .i64) 3 w' w.heap.size (fun k_ => (w.heap.size ≤ k_)) v0_ r1 ∧ Below w.heap.size w w' := by
 have hu24 := Try.underlying24
 have hu64 := Try.underlying64
 have hu70 := Try.underlying70
 have HR0_1 := Aside0.mk hr0_1
 have HC0_1 := Aside0.mk hc0_1
 clear hr0_1 hc0_1
 have HO1 := Aside0.mk (show Kd.V (Kd.int .i64) 3 w w.heap.size (fun k_ => (P1_ k_ ∨ w.heap.size ≤ k_)) (.slice A1 l1.length c1) l1 from Kd.V_mono hs1 (fun k_ hk => .inl hk))
 have HB := Aside0.mk (Below.refl w.heap.size w)
 have H : ((key_open.f a0_0 l0_1 (([l1] : List (List Int)))).bind fun t441 => (if t441 = 0 then ((key_within.f 0 a2 (wrap64 ((l0_1.length : Int) - 1))).bind fun t442 => (if t442 = true then ((key_keysOf.f l1).bind fun bt443 => (if 0 ≤ a2 then (if a2 < (l0_1.length : Int) then ((key_keys_made.f bt443.1 bt443.2.1 bt443.2.2.1 bt443.2.2.2.1 bt443.2.2.2.2.1 bt443.2.2.2.2.2 ((rd_T64 l0_1 a2).f0) ((rd_T64 l0_1 a2).f1)).bind fun bt450 => (if bt450.2.2.2.2.2.2 = true then ((key_keys_list.f bt450.1 bt450.2.1 bt450.2.2.1 bt450.2.2.2.1 bt450.2.2.2.2.1 bt450.2.2.2.2.2.1 a0_0).bind fun t458 => (some (t458, 0))) else (some (([] : List Int), 5)))) else (none)) else (none))) else (some (([] : List Int), 2)))) else (some (([] : List Int), t441)))) = some (r1, r2) := h
 clear h
 obtain ⟨y438, hy438⟩ : ∃ y_ : List (List Int), y_ = (([l1] : List (List Int))) := ⟨_, rfl⟩
 replace H : ((key_open.f a0_0 l0_1 y438).bind fun t441 => (if t441 = 0 then ((key_within.f 0 a2 (wrap64 ((l0_1.length : Int) - 1))).bind fun t442 => (if t442 = true then ((key_keysOf.f l1).bind fun bt443 => (if 0 ≤ a2 then (if a2 < (l0_1.length : Int) then ((key_keys_made.f bt443.1 bt443.2.1 bt443.2.2.1 bt443.2.2.2.1 bt443.2.2.2.2.1 bt443.2.2.2.2.2 ((rd_T64 l0_1 a2).f0) ((rd_T64 l0_1 a2).f1)).bind fun bt450 => (if bt450.2.2.2.2.2.2 = true then ((key_keys_list.f bt450.1 bt450.2.1 bt450.2.2.1 bt450.2.2.2.1 bt450.2.2.2.2.1 bt450.2.2.2.2.2.1 a0_0).bind fun t458 => (some (t458, 0))) else (some (([] : List Int), 5)))) else (none)) else (none))) else (some (([] : List Int), 2)))) else (some (([] : List Int), t441)))) = some (r1, r2) := by first | (rw [hy438]; with_reducible exact H) | (have H2_ := (Option.bind_some _ _).symm.trans H; rw [hy438]; with_reducible exact H2_) | (have H2_ := (Option.bind_some _ _).symm.trans H; with_reducible exact H2_) | with_reducible exact H | (rw [hy438]; exact H) | exact H
 have Ny438 := Aside0.mk hy438
 clear hy438
 replace H := Option.bind_eq_some_iff.mp H
 obtain ⟨t441, A40, H⟩ := H
 try dsimp only at H
 have A4 := Aside0.mk A40
 clear A40
 by_cases c5 : t441 = 0
 ·
  rw [if_pos c5] at H
  have c5b0 : (t441 == 0) = true := beq_iff_eq.mpr c5
  have c5b1 : (t441 != 0) = false := bne_eq_false_iff_eq.mpr c5
  clear c5
  replace H := Option.bind_eq_some_iff.mp H
  obtain ⟨t442, A60, H⟩ := H
  try dsimp only at H
  have A6 := Aside0.mk A60
  clear A60
  by_cases c7 : t442 = true
  ·
   subst c7
   rw [if_pos rfl] at H
   replace H := Option.bind_eq_some_iff.mp H
   obtain ⟨⟨t443, t444, t445, t446, t447, t448⟩, A80, H⟩ := H
   try dsimp only at H
   have A8 := Aside0.mk A80
   clear A80
   by_cases c9 : 0 ≤ a2
   ·
    rw [if_pos c9] at H
    have c9b0 : decide (0 ≤ a2) = true := decide_eq_true c9
    clear c9
    by_cases c10 : a2 < (l0_1.length : Int)
    ·
     rw [if_pos c10] at H
     have c10b0 : decide (a2 < (l0_1.length : Int)) = true := decide_eq_true c10
     clear c10
     replace H := Option.bind_eq_some_iff.mp H
     obtain ⟨⟨t450, t451, t452, t453, t454, t455, t456⟩, A110, H⟩ := H
     try dsimp only at H
     have A11 := Aside0.mk A110
     clear A110
     by_cases c12 : t456 = true
     ·
      subst c12
      rw [if_pos rfl] at H
      replace H := Option.bind_eq_some_iff.mp H
      obtain ⟨t458, A130, H⟩ := H
      try dsimp only at H
      have A13 := Aside0.mk A130
      clear A130
      simp only [Option.some.injEq, Prod.mk.injEq] at H
      obtain ⟨rfl, rfl⟩ := H
      go_enter Try.func41, Try.ntmps41
      try go_wp2_with (first | ((with_reducible refine gate_dst (N := 3) rfl ?_); refine box_event ?hg (N := 3) ?hd (cs := #[.int .i64 a0_0, .slice A0_1 l0_1.length c0_1]) (t := 24) ?hr ?_; (case hd => rfl); (case hg => rfl); (case hr => first | (go_simp; done) | (go_simp; rfl)); intro gb437 hg w14 hbox hb; have BK437 := Aside0.mk (hbox); have GW437 := bsz (w := w) hg; have GE437 := GW437; replace HO1 := Aside0.mk (Kd.V_below (Kd.V_elderB (by (with_reducible repeat (first | apply Kd.V_alloc | apply Kd.V_drewN | apply Kd.V_drew)); exact HO1.out) gb437 (Nat.le_of_eq hg.symm)) hb); replace HB := Aside0.mk (below_step bel hb); clear hb hbox hg; obtain ⟨hcz15_0, hcz15_1⟩ := bc2 BK437.out) | ((with_reducible refine gate_dst (N := 13) rfl ?_); refine Kd.N_lit (Kd.slice 3 (Kd.int .i64)) _ 25 ?hg (N' := 13) ?hd (xs := ([l1] : List (List Int))) (inner := [.slice A1 l1.length c1]) (ok := (fun k_ => (P1_ k_ ∨ w.heap.size ≤ k_) ∧ k_ ≠ gb437)) (okp := (fun k_ => (P1_ k_ ∨ w.heap.size ≤ k_) ∧ k_ ≠ gb437)) ?hr ?hp (fun _ hk => hk) ((show ∀ k_, w14.heap.size ≤ k_ → (fun k_ => (P1_ k_ ∨ w.heap.size ≤ k_) ∧ k_ ≠ gb437) k_ from fun k_ hk => ⟨(.inr (Nat.le_trans (below_size bel) hk)), Kd.freshB (g := gb437) (o := .cells #[.int .i64 a0_0, .slice A0_1 l0_1.length c0_1] 24 (0, 0)) blkz k_ hk⟩) _ (Nat.le_refl _)) (Below.refl _ _) (Nat.le_refl _) (by simp) ?_; (case hd => rfl); (case hg => rfl); (case hr => first | (go_simp; done) | (go_simp; rfl)); (case hp => exact (Reps.one (show Kd.FK (Kd.slice 3 (Kd.int .i64)) _ _ l1 [.slice A1 l1.length c1] from (Kd.FK_slice_mk (Kd.V_reads' (Kd.V_mono (ok' := (fun k_ => (P1_ k_ ∨ w.heap.size ≤ k_) ∧ k_ ≠ gb437)) (HO1.out) (fun k_ hk => ⟨hk.1, hk.2⟩))).2.1 (Kd.V_F (Kd.V_mono (ok' := (fun k_ => (P1_ k_ ∨ w.heap.size ≤ k_) ∧ k_ ≠ gb437)) (HO1.out) (fun k_ hk => ⟨hk.1, hk.2⟩))))) (Reps.none _ _))); intro v439 w16 ho17 hb hg_ hnew_; clear hg_ hnew_; (first | rw [← Ny438.out] at ho17 | (simp only [Int.reduceToNat] at ho17; rw [← Ny438.out] at ho17)); have HO440 := Aside0.mk (Kd.N_lower ho17 (below_size bel)); replace HO1 := Aside0.mk (Kd.V_elder' (by (with_reducible repeat (first | apply Kd.V_alloc | apply Kd.V_drewN | apply Kd.V_drew)); exact HO1.out) (Kd.N_base ho17) hb); replace BK437 := Aside0.mk (blk_below (g := gb437) blkz hb); replace HB := Aside0.mk (below_step bel hb); clear hb ho17; obtain ⟨Ao18, co18, eo18⟩ := Kd.N_slice HO440.out; subst eo18) | ((with_reducible refine gate_callee (f := 68) rfl ?_); refine goesL_ (some 14) rfl rfl Try.func68 (by kernel_rfl) rfl #[.agg #[.int .i64 a0_0, .slice A0_1 l0_1.length c0_1], .slice Ao18 y438.length co18] rfl mapz ?_; (with_reducible refine (key_open.calls a0_0 _ _ l0_1 _ _ y438 t441 _ (cbz HR0_1) HC0_1.out ?side3 ?side4 A4.out).mono ?_); (case side3 => repeat (first | exact (Kd.N_reads' HO440.out).2.2 | (with_reducible refine Kd.C_alloc ?_ _) | (with_reducible refine Kd.C_drewN ?_ _) | (with_reducible refine Kd.C_drew ?_))); (case side4 => exact (Kd.N_reads' HO440.out).2.1); rintro e w19 ⟨rfl, hb⟩; refine ⟨_, rfl, ?_⟩; replace HO1 := Aside0.mk (Kd.V_below (by (with_reducible repeat (first | apply Kd.V_alloc | apply Kd.V_drewN | apply Kd.V_drew)); exact HO1.out) hb); replace HO440 := Aside0.mk (Kd.N_below (by (with_reducible repeat (first | apply Kd.N_alloc | apply Kd.N_drewN | apply Kd.N_drew)); exact HO440.out) hb); replace BK437 := Aside0.mk (blk_below (g := gb437) blkz hb); replace HB := Aside0.mk (below_step bel hb); clear hb; obtain ⟨hcz20_0, hcz20_1⟩ := bc2 BK437.out) | ((with_reducible refine gate_callee (f := 78) rfl ?_); refine goesL_ (some 25) rfl rfl Try.func78 (by kernel_rfl) rfl #[.int .i64 0, .int .i64 a2, .int .i64 (wrap64 ((l0_1.length : Int) - 1))] rfl mapz ?_; (with_reducible refine (key_within.calls 0 a2 (wrap64 ((l0_1.length : Int) - 1)) true _ A6.out).mono ?_); rintro e w' ⟨rfl, ⟨nd, rfl⟩⟩; refine ⟨_, rfl, ?_⟩; (try (rw [drewN_self w19]; generalize hq_ : World.drewN w19 _ = w19; have n0_ : Aside0 (Kd.V (Kd.int .i64) 3 w19 w.heap.size (fun k_ => (P1_ k_ ∨ w.heap.size ≤ k_) ∧ some k_ ≠ (.slice Ao18 y438.length co18 : Value).ownBlock ∧ k_ ≠ gb437) (.slice A1 l1.length c1) l1) := ⟨by rw [← hq_]; exact (by (with_reducible repeat (first | apply Kd.V_alloc | apply Kd.V_drewN | apply Kd.V_drew)); exact Kd.V_mono HO1.out (fun _ hk => ⟨hk.1.1, ⟨hk.2, hk.1.2⟩⟩))⟩; have n1_ : Aside0 (Kd.N (Kd.slice 3 (Kd.int .i64)) 25 w19 w.heap.size (fun k_ => (P1_ k_ ∨ w.heap.size ≤ k_) ∧ k_ ≠ gb437) (.slice Ao18 y438.length co18) y438) := ⟨by rw [← hq_]; exact (by (with_reducible repeat (first | apply Kd.N_alloc | apply Kd.N_drewN | apply Kd.N_drew)); exact HO440.out)⟩; have n2_ : Aside0 (w19.heap[gb437]? = some (.cells #[.int .i64 a0_0, .slice A0_1 l0_1.length c0_1] 24 (0, 0))) := ⟨by rw [← hq_]; exact blkz⟩; have n3_ : Aside0 (Below w.heap.size w w19) := ⟨by rw [← hq_]; exact bel⟩; clear HO1 HO440 BK437 HB hq_; have HO1 := n0_; have HO440 := n1_; have BK437 := n2_; have HB := n3_; clear n0_ n1_ n2_ n3_))))
      have n0_ := Aside0.mk (Kd.V_drew HO1.out)
      have n1_ := Aside0.mk (Kd.N_drew HO440.out)
      have n2_ := Aside0.mk (blk_drew BK437.out)
      have n3_ := Aside0.mk (below_drew1 HB.out)
      clear HO1
      clear HO440
      clear BK437
      clear HB
      have HO1 := n0_
      have HO440 := n1_
      have BK437 := n2_
      have HB := n3_
      clear n0_ n1_ n2_ n3_
      have p449 : 0 ≤ (a2 : Int) := of_decide_eq_true asz
      have q449 : a2 < (l0_1.length : Int) := of_decide_eq_true asz
      obtain ⟨ad449, A449_0, c449_0, A449_1, c449_1, e449, hx449_0, hx449_1, hl449_0, hi449_0, hl449_1, hi449_1⟩ := at_T64 HR0_1.out a2 p449 q449
      have hw449_1 := hx449_1
      have hw449_0 := hx449_0
      cases e449
      replace hx449_0 := (HB.out.cell (World.block_lt_of_cell? w _ hx449_0)).trans hx449_0
      replace hx449_1 := (HB.out.cell (World.block_lt_of_cell? w _ hx449_1)).trans hx449_1
      have HR449_0 := Aside0.mk hi449_0
      have HC449_0 := Aside0.mk hl449_0
      clear hi449_0 hl449_0
      have HR449_1 := Aside0.mk hi449_1
      have HC449_1 := Aside0.mk hl449_1
      clear hi449_1 hl449_1
      replace p449 := eq_true p449
      replace q449 := eq_true q449
      refine start_ (n := 14) (S := fun w' => w'.cell? ⟨gb437, 0, none⟩ = some (.int .i64 a0_0) ∧ w'.cell? ⟨gb437, 1, none⟩ = some (.slice (some ad449) l0_1.length c0_1) ∧ w'.cell? (ad449.add ((a2).toNat * 2)) = some (.slice A449_0 ((rd_T64 l0_1 a2).f0).length c449_0) ∧ w'.cell? ⟨(ad449.add ((a2).toNat * 2)).block, (ad449.add ((a2).toNat * 2)).off + 1, none⟩ = some (.slice A449_1 ((rd_T64 l0_1 a2).f1).length c449_1)) (ds := []) #[false, false, false, false, false, false, false, false, false, false, false, false, false, false] (by kernel_rfl) rfl rfl ⟨(blk_cell BK437.out 0).trans rfl, (blk_cell BK437.out 1).trans rfl, ((HB.out.cell (World.block_lt_of_cell? w _ hw449_0)).trans hw449_0), ((HB.out.cell (World.block_lt_of_cell? w _ hw449_1)).trans hw449_1)⟩ (fun hHeld => ?_); refine with_tabW key_Make.tab6 key_Make.bits6 (fun HT_ HW_ => ?_)
      generalize w19.drew = w21 at HO1 HO440 BK437 HB HR449_0 HR449_1 hx449_0 hx449_1 hHeld ⊢
      refine pst (i := 0) (N := some 28) (bz 14 1) (any_of HT_.out (by kernel_rfl)) ?_
      refine pst (i := 2) (N := some 30) (bz 14 5) (any_of HT_.out (by kernel_rfl)) ?_
      refine pst (i := 4) (N := some 32) (bz 14 21) (any_of HT_.out (by kernel_rfl)) ?_
      refine tst4 (i := 3) (N := some 31) (bz 14 29) (take_ofW HT_.out HW_.out (by kernel_rfl)) hHeld ?_
      refine pst (i := 5) (N := some 33) (bz 14 61) (any_of HT_.out (by kernel_rfl)) ?_
      refine tst4 (i := 6) (N := some 34) (bz 14 125) (take_ofW HT_.out HW_.out (by kernel_rfl)) hHeld ?_
      refine join_ (σ := Nat) 2 #[true, true, true, true, true, true, true, true, true, true, true, true, false, false] (fun s_ => [(29, .agg #[.int .i64 t443, .int .i64 t444, .int .i64 t445, .int .i64 t446, .int .i64 t447, .int .i64 t448]), (35, .tuple #[.agg #[.int .i64 t450, .int .i64 t451, .int .i64 t452, .int .i64 t453, .int .i64 t454, .int .i64 t455], .bool true]), (9, .pointer (some ⟨s_, 0, none⟩)), (27, .tuple #[.agg #[.int .i64 t450, .int .i64 t451, .int .i64 t452, .int .i64 t453, .int .i64 t454, .int .i64 t455], .bool true]), (36, .agg #[.int .i64 t450, .int .i64 t451, .int .i64 t452, .int .i64 t453, .int .i64 t454, .int .i64 t455]), (37, .bool true)]) (fun s_ w' => (w'.cell? ⟨gb437, 0, none⟩ = some (.int .i64 a0_0) ∧ w'.cell? ⟨gb437, 1, none⟩ = some (.slice (some ad449) l0_1.length c0_1) ∧ w'.cell? (ad449.add ((a2).toNat * 2)) = some (.slice A449_0 ((rd_T64 l0_1 a2).f0).length c449_0) ∧ w'.cell? ⟨(ad449.add ((a2).toNat * 2)).block, (ad449.add ((a2).toNat * 2)).off + 1, none⟩ = some (.slice A449_1 ((rd_T64 l0_1 a2).f1).length c449_1)) ∧ (Kd.V (Kd.int .i64) 3 w' w.heap.size (fun k_ => (P1_ k_ ∨ w.heap.size ≤ k_) ∧ some k_ ≠ (.slice Ao18 y438.length co18 : Value).ownBlock ∧ k_ ≠ gb437 ∧ k_ ≠ s_) (.slice A1 l1.length c1) l1) ∧ (Kd.N (Kd.slice 3 (Kd.int .i64)) 25 w' w.heap.size (fun k_ => (P1_ k_ ∨ w.heap.size ≤ k_) ∧ k_ ≠ gb437 ∧ k_ ≠ s_) (.slice Ao18 y438.length co18) y438) ∧ (w'.heap[gb437]? = some (.cells #[.int .i64 a0_0, .slice (some ad449) l0_1.length c0_1] 24 (0, 0))) ∧ (w'.heap[s_]? = some (.cells #[.int .i64 0, .int .i64 0, .int .i64 0, .int .i64 0, .int .i64 0, .int .i64 0] 70 (0, 0))) ∧ (w.heap.size ≤ s_) ∧ (w.heap.size ≤ s_) ∧ (gb437 ≠ s_) ∧ (s_ ≠ gb437) ∧ (Below w.heap.size w w')) ?_ ?_
      rotate_left
      ·
       intro hCont
       refine two_ (i := 1) (j := 11) (Ni := some 29) (Nj := some 9) #[true, true, true, true, true, true, true, false, false, false, false, false, false, false] #[true, false, true, true, true, true, true, false, false, false, false, true, false, false] rfl rfl rfl rfl (two_of HT_.out (by kernel_rfl)) (by decide) (by decide) (fun K hK => ?_) (fun K hK => ?_)
       ·
        skip
        refine goes_ Try.func61 (by kernel_rfl) rfl #[.slice A1 l1.length c1] (by rfl) rfl rfl mapz ?_
        with_reducible refine (key_keysOf.calls _ _ l1 t443 t444 t445 t446 t447 t448 _ ?side1 ?side2 A8.out).mono ?_
        (case side1 => repeat (first | exact (Kd.V_reads' HO1.out).2.2 | (with_reducible refine Kd.C_alloc ?_ _) | (with_reducible refine Kd.C_drewN ?_ _) | (with_reducible refine Kd.C_drew ?_)))
        (case side2 => exact (Kd.V_reads' HO1.out).2.1)
        rintro e w22 ⟨rfl, hb⟩
        refine ⟨_, rfl, ?_⟩
        have n0_ := Aside0.mk (Kd.V_below (by (with_reducible repeat (first | apply Kd.V_alloc | apply Kd.V_drewN | apply Kd.V_drew)); exact HO1.out) hb)
        have n1_ := Aside0.mk (Kd.N_below (by (with_reducible repeat (first | apply Kd.N_alloc | apply Kd.N_drewN | apply Kd.N_drew)); exact HO440.out) hb)
        have n2_ := Aside0.mk (blk_below (g := gb437) blkz hb)
        have n3_ := Aside0.mk (below_step bel hb)
        clear HO1
        clear HO440
        clear BK437
        clear HB
        have HO1 := n0_
        have HO440 := n1_
        have BK437 := n2_
        have HB := n3_
        clear n0_ n1_ n2_ n3_
        (try clear hb)
        (try clear hb2)
        (try clear hk)
        (try clear hi)
        refine hK.out _ _ ⟨(blk_cell BK437.out 0).trans rfl, (blk_cell BK437.out 1).trans rfl, ((HB.out.cell (World.block_lt_of_cell? w _ hw449_0)).trans hw449_0), ((HB.out.cell (World.block_lt_of_cell? w _ hw449_1)).trans hw449_1)⟩ (fun hHeld => ?_)
        clear hK K
        refine norm_ (a' := ?_) ?_ ?_
        rotate_left
        ·
         show Act.put _ (some 29) _ = _
         simp only [Act.put, List.setIfInBounds_toArray, List.set_cons_zero, List.set_cons_succ, i64_w, i32_w]
         rfl
        refine two_ (i := 7) (j := 11) (Ni := some 35) (Nj := some 9) #[true, true, true, true, true, true, true, true, false, false, false, false, false, false] #[true, true, true, true, true, true, true, false, false, false, false, true, false, false] rfl rfl rfl rfl (two_of HT_.out (by kernel_rfl)) (by decide) (by decide) (fun K hK => ?_) (fun K hK => ?_)
        ·
         skip
         refine goes_ Try.func70 (by kernel_rfl) rfl #[.agg #[.int .i64 t443, .int .i64 t444, .int .i64 t445, .int .i64 t446, .int .i64 t447, .int .i64 t448], .agg #[.slice A449_0 ((rd_T64 l0_1 a2).f0).length c449_0, .slice A449_1 ((rd_T64 l0_1 a2).f1).length c449_1]] (by rfl) rfl rfl mapz ?_
         with_reducible refine (key_keys_made.calls t443 t444 t445 t446 t447 t448 _ _ ((rd_T64 l0_1 a2).f0) _ _ ((rd_T64 l0_1 a2).f1) t450 t451 t452 t453 t454 t455 true _ ?side1 ?side2 ?side3 ?side4 A11.out).mono ?_
         (case side1 => exact cbz HR449_0)
         (case side2 => exact HC449_0.out)
         (case side3 => exact cbz HR449_1)
         (case side4 => exact HC449_1.out)
         rintro e w23 ⟨rfl, hb⟩
         refine ⟨_, rfl, ?_⟩
         have n0_ := Aside0.mk (Kd.V_below (by (with_reducible repeat (first | apply Kd.V_alloc | apply Kd.V_drewN | apply Kd.V_drew)); exact HO1.out) hb)
         have n1_ := Aside0.mk (Kd.N_below (by (with_reducible repeat (first | apply Kd.N_alloc | apply Kd.N_drewN | apply Kd.N_drew)); exact HO440.out) hb)
         have n2_ := Aside0.mk (blk_below (g := gb437) blkz hb)
         have n3_ := Aside0.mk (below_step bel hb)
         clear HO1
         clear HO440
         clear BK437
         clear HB
         have HO1 := n0_
         have HO440 := n1_
         have BK437 := n2_
         have HB := n3_
         clear n0_ n1_ n2_ n3_
         (try clear hb)
         (try clear hb2)
         (try clear hk)
         (try clear hi)
         refine hK.out _ _ ⟨(blk_cell BK437.out 0).trans rfl, (blk_cell BK437.out 1).trans rfl, ((HB.out.cell (World.block_lt_of_cell? w _ hw449_0)).trans hw449_0), ((HB.out.cell (World.block_lt_of_cell? w _ hw449_1)).trans hw449_1)⟩ (fun hHeld => ?_)
         clear hK K
         refine norm_ (a' := ?_) ?_ ?_
         rotate_left
         ·
          show Act.put _ (some 35) _ = _
          simp only [Act.put, List.setIfInBounds_toArray, List.set_cons_zero, List.set_cons_succ, i64_w, i32_w]
          rfl
         refine pst (i := 8) (N := some 27) (bz 14 511) (any_of HT_.out (by kernel_rfl)) ?_
         refine pst (i := 9) (N := some 36) (bz 14 1023) (any_of HT_.out (by kernel_rfl)) ?_
         refine pst (i := 10) (N := some 37) (bz 14 2047) (any_of HT_.out (by kernel_rfl)) ?_
         refine one_ (i := 11) (N := some 9) #[true, true, true, true, true, true, true, true, true, true, true, true, false, false] rfl rfl (one_of HT_.out (by kernel_rfl)) (by decide) (fun K hK => ?_)
         refine box_step ?hg (N := 9) ?hd (cs := #[.int .i64 0, .int .i64 0, .int .i64 0, .int .i64 0, .int .i64 0, .int .i64 0]) (t := 70) ?hr ?_; (case hd => rfl); (case hg => rfl); (case hr => first | (go_simp; done) | (go_simp; rfl))
         intro gb457 hg w24 hbox hb
         have n0_ := Aside0.mk (Kd.V_below (Kd.V_elderB (by (with_reducible repeat (first | apply Kd.V_alloc | apply Kd.V_drewN | apply Kd.V_drew)); exact HO1.out) gb457 (Nat.le_of_eq hg.symm)) hb)
         have n1_ := Aside0.mk (Kd.N_below (Kd.N_elderB (by (with_reducible repeat (first | apply Kd.N_alloc | apply Kd.N_drewN | apply Kd.N_drew)); exact HO440.out) gb457 (Nat.le_of_eq hg.symm)) hb)
         have n2_ := Aside0.mk (blk_below (g := gb437) blkz hb)
         have n3_ := Aside0.mk (below_step bel hb)
         have n4_ := Aside0.mk (hbox)
         have n5_ := bsz (w := w) hg
         have n6_ := bsz (w := w) hg
         have n7_ := neL (g := gb437) hg
         have n8_ := neR (g := gb437) hg
         clear HO1
         clear HO440
         clear BK437
         clear HB
         have HO1 := n0_
         have HO440 := n1_
         have BK437 := n2_
         have HB := n3_
         have BK457 := n4_
         have GW457 := n5_
         have GE457 := n6_
         have NB437_457 := n7_
         have NB457_437 := n8_
         clear n0_ n1_ n2_ n3_ n4_ n5_ n6_ n7_ n8_
         clear hb hbox hg
         refine hK.out _ _ ⟨(blk_cell BK437.out 0).trans rfl, (blk_cell BK437.out 1).trans rfl, ((HB.out.cell (World.block_lt_of_cell? w _ hw449_0)).trans hw449_0), ((HB.out.cell (World.block_lt_of_cell? w _ hw449_1)).trans hw449_1)⟩ (fun hHeld => ?_)
         clear hK K
         refine norm_ (a' := ?_) ?_ ?_
         rotate_left
         ·
          show Act.put _ (some 9) _ = _
          simp only [Act.put, List.setIfInBounds_toArray, List.set_cons_zero, List.set_cons_succ, i64_w, i32_w]
          rfl
         exact norm_ (by simp only [putAll, Act.put, List.setIfInBounds_toArray, List.set_cons_zero, List.set_cons_succ]) (hCont (gb457) _ ⟨hHeld, (by (with_reducible repeat (first | apply Kd.V_alloc | apply Kd.V_drewN | apply Kd.V_drew)); exact Kd.V_mono HO1.out (fun _ hk => by first | exact ⟨hk.1.1.1, ⟨hk.1.2, ⟨hk.1.1.2, hk.2⟩⟩⟩ | (obtain ⟨⟨h1_, h2_, h3_⟩, h4_⟩ := hk; first | exact ⟨h1_, h2_, h3_, h4_⟩ | exact ⟨h1_, h3_, h2_, h4_⟩ | exact ⟨h1_, h4_, h2_, h3_⟩ | exact ⟨h1_, h4_, h3_, h2_⟩ | exact ⟨h1_, h2_, h4_, h3_⟩ | exact ⟨h1_, h3_, h4_, h2_⟩))), (by (with_reducible repeat (first | apply Kd.N_alloc | apply Kd.N_drewN | apply Kd.N_drew)); exact Kd.N_mono HO440.out (fun _ hk => ⟨hk.1.1, ⟨hk.1.2, hk.2⟩⟩)), blkz, blkz, GW457.out, GE457.out, NB437_457.out, NB457_437.out, bel⟩)
        ·
         skip
         refine box_step ?hg (N := 9) ?hd (cs := #[.int .i64 0, .int .i64 0, .int .i64 0, .int .i64 0, .int .i64 0, .int .i64 0]) (t := 70) ?hr ?_; (case hd => rfl); (case hg => rfl); (case hr => first | (go_simp; done) | (go_simp; rfl))
         intro gb457 hg w23 hbox hb
         have n0_ := Aside0.mk (Kd.V_below (Kd.V_elderB (by (with_reducible repeat (first | apply Kd.V_alloc | apply Kd.V_drewN | apply Kd.V_drew)); exact HO1.out) gb457 (Nat.le_of_eq hg.symm)) hb)
         have n1_ := Aside0.mk (Kd.N_below (Kd.N_elderB (by (with_reducible repeat (first | apply Kd.N_alloc | apply Kd.N_drewN | apply Kd.N_drew)); exact HO440.out) gb457 (Nat.le_of_eq hg.symm)) hb)
         have n2_ := Aside0.mk (blk_below (g := gb437) blkz hb)
         have n3_ := Aside0.mk (below_step bel hb)
         have n4_ := Aside0.mk (hbox)
         have n5_ := bsz (w := w) hg
         have n6_ := bsz (w := w) hg
         have n7_ := neL (g := gb437) hg
         have n8_ := neR (g := gb437) hg
         clear HO1
         clear HO440
         clear BK437
         clear HB
         have HO1 := n0_
         have HO440 := n1_
         have BK437 := n2_
         have HB := n3_
         have BK457 := n4_
         have GW457 := n5_
         have GE457 := n6_
         have NB437_457 := n7_
         have NB457_437 := n8_
         clear n0_ n1_ n2_ n3_ n4_ n5_ n6_ n7_ n8_
         clear hb hbox hg
         refine hK.out _ _ ⟨(blk_cell BK437.out 0).trans rfl, (blk_cell BK437.out 1).trans rfl, ((HB.out.cell (World.block_lt_of_cell? w _ hw449_0)).trans hw449_0), ((HB.out.cell (World.block_lt_of_cell? w _ hw449_1)).trans hw449_1)⟩ (fun hHeld => ?_)
         clear hK K
         refine norm_ (a' := ?_) ?_ ?_
         rotate_left
         ·
          show Act.put _ (some 9) _ = _
          simp only [Act.put, List.setIfInBounds_toArray, List.set_cons_zero, List.set_cons_succ, i64_w, i32_w]
          rfl
         refine one_ (i := 7) (N := some 35) #[true, true, true, true, true, true, true, true, false, false, false, true, false, false] rfl rfl (one_of HT_.out (by kernel_rfl)) (by decide) (fun K hK => ?_)
         refine goes_ Try.func70 (by kernel_rfl) rfl #[.agg #[.int .i64 t443, .int .i64 t444, .int .i64 t445, .int .i64 t446, .int .i64 t447, .int .i64 t448], .agg #[.slice A449_0 ((rd_T64 l0_1 a2).f0).length c449_0, .slice A449_1 ((rd_T64 l0_1 a2).f1).length c449_1]] (by rfl) rfl rfl mapz ?_
         with_reducible refine (key_keys_made.calls t443 t444 t445 t446 t447 t448 _ _ ((rd_T64 l0_1 a2).f0) _ _ ((rd_T64 l0_1 a2).f1) t450 t451 t452 t453 t454 t455 true _ ?side1 ?side2 ?side3 ?side4 A11.out).mono ?_
         (case side1 => exact cbz HR449_0)
         (case side2 => exact HC449_0.out)
         (case side3 => exact cbz HR449_1)
         (case side4 => exact HC449_1.out)
         rintro e w24 ⟨rfl, hb⟩
         refine ⟨_, rfl, ?_⟩
         have n0_ := Aside0.mk (Kd.V_below (by (with_reducible repeat (first | apply Kd.V_alloc | apply Kd.V_drewN | apply Kd.V_drew)); exact HO1.out) hb)
         have n1_ := Aside0.mk (Kd.N_below (by (with_reducible repeat (first | apply Kd.N_alloc | apply Kd.N_drewN | apply Kd.N_drew)); exact HO440.out) hb)
         have n2_ := Aside0.mk (blk_below (g := gb437) blkz hb)
         have n3_ := Aside0.mk (blk_below (g := gb457) blkz hb)
         have n4_ := Aside0.mk (below_step bel hb)
         clear HO1
         clear HO440
         clear BK437
         clear BK457
         clear HB
         have HO1 := n0_
         have HO440 := n1_
         have BK437 := n2_
         have BK457 := n3_
         have HB := n4_
         clear n0_ n1_ n2_ n3_ n4_
         (try clear hb)
         (try clear hb2)
         (try clear hk)
         (try clear hi)
         refine hK.out _ _ ⟨(blk_cell BK437.out 0).trans rfl, (blk_cell BK437.out 1).trans rfl, ((HB.out.cell (World.block_lt_of_cell? w _ hw449_0)).trans hw449_0), ((HB.out.cell (World.block_lt_of_cell? w _ hw449_1)).trans hw449_1)⟩ (fun hHeld => ?_)
         clear hK K
         refine norm_ (a' := ?_) ?_ ?_
         rotate_left
         ·
          show Act.put _ (some 35) _ = _
          simp only [Act.put, List.setIfInBounds_toArray, List.set_cons_zero, List.set_cons_succ, i64_w, i32_w]
          rfl
         refine pst (i := 8) (N := some 27) (bz 14 2559) (any_of HT_.out (by kernel_rfl)) ?_
         refine pst (i := 9) (N := some 36) (bz 14 3071) (any_of HT_.out (by kernel_rfl)) ?_
         refine pst (i := 10) (N := some 37) (bz 14 4095) (any_of HT_.out (by kernel_rfl)) ?_
         exact norm_ (by simp only [putAll, Act.put, List.setIfInBounds_toArray, List.set_cons_zero, List.set_cons_succ]) (hCont (gb457) _ ⟨hHeld, (by (with_reducible repeat (first | apply Kd.V_alloc | apply Kd.V_drewN | apply Kd.V_drew)); exact Kd.V_mono HO1.out (fun _ hk => by first | exact ⟨hk.1.1.1, ⟨hk.1.2, ⟨hk.1.1.2, hk.2⟩⟩⟩ | (obtain ⟨⟨h1_, h2_, h3_⟩, h4_⟩ := hk; first | exact ⟨h1_, h2_, h3_, h4_⟩ | exact ⟨h1_, h3_, h2_, h4_⟩ | exact ⟨h1_, h4_, h2_, h3_⟩ | exact ⟨h1_, h4_, h3_, h2_⟩ | exact ⟨h1_, h2_, h4_, h3_⟩ | exact ⟨h1_, h3_, h4_, h2_⟩))), (by (with_reducible repeat (first | apply Kd.N_alloc | apply Kd.N_drewN | apply Kd.N_drew)); exact Kd.N_mono HO440.out (fun _ hk => ⟨hk.1.1, ⟨hk.1.2, hk.2⟩⟩)), blkz, blkz, GW457.out, GE457.out, NB437_457.out, NB457_437.out, bel⟩)
       ·
        skip
        refine box_step ?hg (N := 9) ?hd (cs := #[.int .i64 0, .int .i64 0, .int .i64 0, .int .i64 0, .int .i64 0, .int .i64 0]) (t := 70) ?hr ?_; (case hd => rfl); (case hg => rfl); (case hr => first | (go_simp; done) | (go_simp; rfl))
        intro gb457 hg w22 hbox hb
        have n0_ := Aside0.mk (Kd.V_below (Kd.V_elderB (by (with_reducible repeat (first | apply Kd.V_alloc | apply Kd.V_drewN | apply Kd.V_drew)); exact HO1.out) gb457 (Nat.le_of_eq hg.symm)) hb)
        have n1_ := Aside0.mk (Kd.N_below (Kd.N_elderB (by (with_reducible repeat (first | apply Kd.N_alloc | apply Kd.N_drewN | apply Kd.N_drew)); exact HO440.out) gb457 (Nat.le_of_eq hg.symm)) hb)
        have n2_ := Aside0.mk (blk_below (g := gb437) blkz hb)
        have n3_ := Aside0.mk (below_step bel hb)
        have n4_ := Aside0.mk (hbox)
        have n5_ := bsz (w := w) hg
        have n6_ := bsz (w := w) hg
        have n7_ := neL (g := gb437) hg
        have n8_ := neR (g := gb437) hg
        clear HO1
        clear HO440
        clear BK437
        clear HB
        have HO1 := n0_
        have HO440 := n1_
        have BK437 := n2_
        have HB := n3_
        have BK457 := n4_
        have GW457 := n5_
        have GE457 := n6_
        have NB437_457 := n7_
        have NB457_437 := n8_
        clear n0_ n1_ n2_ n3_ n4_ n5_ n6_ n7_ n8_
        clear hb hbox hg
        refine hK.out _ _ ⟨(blk_cell BK437.out 0).trans rfl, (blk_cell BK437.out 1).trans rfl, ((HB.out.cell (World.block_lt_of_cell? w _ hw449_0)).trans hw449_0), ((HB.out.cell (World.block_lt_of_cell? w _ hw449_1)).trans hw449_1)⟩ (fun hHeld => ?_)
        clear hK K
        refine norm_ (a' := ?_) ?_ ?_
        rotate_left
        ·
         show Act.put _ (some 9) _ = _
         simp only [Act.put, List.setIfInBounds_toArray, List.set_cons_zero, List.set_cons_succ, i64_w, i32_w]
         rfl
        refine one_ (i := 1) (N := some 29) #[true, true, true, true, true, true, true, false, false, false, false, true, false, false] rfl rfl (one_of HT_.out (by kernel_rfl)) (by decide) (fun K hK => ?_)
        refine goes_ Try.func61 (by kernel_rfl) rfl #[.slice A1 l1.length c1] (by rfl) rfl rfl mapz ?_
        with_reducible refine (key_keysOf.calls _ _ l1 t443 t444 t445 t446 t447 t448 _ ?side1 ?side2 A8.out).mono ?_
        (case side1 => repeat (first | exact (Kd.V_reads' HO1.out).2.2 | (with_reducible refine Kd.C_alloc ?_ _) | (with_reducible refine Kd.C_drewN ?_ _) | (with_reducible refine Kd.C_drew ?_)))
        (case side2 => exact (Kd.V_reads' HO1.out).2.1)
        rintro e w23 ⟨rfl, hb⟩
        refine ⟨_, rfl, ?_⟩
        have n0_ := Aside0.mk (Kd.V_below (by (with_reducible repeat (first | apply Kd.V_alloc | apply Kd.V_drewN | apply Kd.V_drew)); exact HO1.out) hb)
        have n1_ := Aside0.mk (Kd.N_below (by (with_reducible repeat (first | apply Kd.N_alloc | apply Kd.N_drewN | apply Kd.N_drew)); exact HO440.out) hb)
        have n2_ := Aside0.mk (blk_below (g := gb437) blkz hb)
        have n3_ := Aside0.mk (blk_below (g := gb457) blkz hb)
        have n4_ := Aside0.mk (below_step bel hb)
        clear HO1
        clear HO440
        clear BK437
        clear BK457
        clear HB
        have HO1 := n0_
        have HO440 := n1_
        have BK437 := n2_
        have BK457 := n3_
        have HB := n4_
        clear n0_ n1_ n2_ n3_ n4_
        (try clear hb)
        (try clear hb2)
        (try clear hk)
        (try clear hi)
        refine hK.out _ _ ⟨(blk_cell BK437.out 0).trans rfl, (blk_cell BK437.out 1).trans rfl, ((HB.out.cell (World.block_lt_of_cell? w _ hw449_0)).trans hw449_0), ((HB.out.cell (World.block_lt_of_cell? w _ hw449_1)).trans hw449_1)⟩ (fun hHeld => ?_)
        clear hK K
        refine norm_ (a' := ?_) ?_ ?_
        rotate_left
        ·
         show Act.put _ (some 29) _ = _
         simp only [Act.put, List.setIfInBounds_toArray, List.set_cons_zero, List.set_cons_succ, i64_w, i32_w]
         rfl
        refine one_ (i := 7) (N := some 35) #[true, true, true, true, true, true, true, true, false, false, false, true, false, false] rfl rfl (one_of HT_.out (by kernel_rfl)) (by decide) (fun K hK => ?_)
        refine goes_ Try.func70 (by kernel_rfl) rfl #[.agg #[.int .i64 t443, .int .i64 t444, .int .i64 t445, .int .i64 t446, .int .i64 t447, .int .i64 t448], .agg #[.slice A449_0 ((rd_T64 l0_1 a2).f0).length c449_0, .slice A449_1 ((rd_T64 l0_1 a2).f1).length c449_1]] (by rfl) rfl rfl mapz ?_
        with_reducible refine (key_keys_made.calls t443 t444 t445 t446 t447 t448 _ _ ((rd_T64 l0_1 a2).f0) _ _ ((rd_T64 l0_1 a2).f1) t450 t451 t452 t453 t454 t455 true _ ?side1 ?side2 ?side3 ?side4 A11.out).mono ?_
        (case side1 => exact cbz HR449_0)
        (case side2 => exact HC449_0.out)
        (case side3 => exact cbz HR449_1)
        (case side4 => exact HC449_1.out)
        rintro e w24 ⟨rfl, hb⟩
        refine ⟨_, rfl, ?_⟩
        have n0_ := Aside0.mk (Kd.V_below (by (with_reducible repeat (first | apply Kd.V_alloc | apply Kd.V_drewN | apply Kd.V_drew)); exact HO1.out) hb)
        have n1_ := Aside0.mk (Kd.N_below (by (with_reducible repeat (first | apply Kd.N_alloc | apply Kd.N_drewN | apply Kd.N_drew)); exact HO440.out) hb)
        have n2_ := Aside0.mk (blk_below (g := gb437) blkz hb)
        have n3_ := Aside0.mk (blk_below (g := gb457) blkz hb)
        have n4_ := Aside0.mk (below_step bel hb)
        clear HO1
        clear HO440
        clear BK437
        clear BK457
        clear HB
        have HO1 := n0_
        have HO440 := n1_
        have BK437 := n2_
        have BK457 := n3_
        have HB := n4_
        clear n0_ n1_ n2_ n3_ n4_
        (try clear hb)
        (try clear hb2)
        (try clear hk)
        (try clear hi)
        refine hK.out _ _ ⟨(blk_cell BK437.out 0).trans rfl, (blk_cell BK437.out 1).trans rfl, ((HB.out.cell (World.block_lt_of_cell? w _ hw449_0)).trans hw449_0), ((HB.out.cell (World.block_lt_of_cell? w _ hw449_1)).trans hw449_1)⟩ (fun hHeld => ?_)
        clear hK K
        refine norm_ (a' := ?_) ?_ ?_
        rotate_left
        ·
         show Act.put _ (some 35) _ = _
         simp only [Act.put, List.setIfInBounds_toArray, List.set_cons_zero, List.set_cons_succ, i64_w, i32_w]
         rfl
        refine pst (i := 8) (N := some 27) (bz 14 2559) (any_of HT_.out (by kernel_rfl)) ?_
        refine pst (i := 9) (N := some 36) (bz 14 3071) (any_of HT_.out (by kernel_rfl)) ?_
        refine pst (i := 10) (N := some 37) (bz 14 4095) (any_of HT_.out (by kernel_rfl)) ?_
        exact norm_ (by simp only [putAll, Act.put, List.setIfInBounds_toArray, List.set_cons_zero, List.set_cons_succ]) (hCont (gb457) _ ⟨hHeld, (by (with_reducible repeat (first | apply Kd.V_alloc | apply Kd.V_drewN | apply Kd.V_drew)); exact Kd.V_mono HO1.out (fun _ hk => by first | exact ⟨hk.1.1.1, ⟨hk.1.2, ⟨hk.1.1.2, hk.2⟩⟩⟩ | (obtain ⟨⟨h1_, h2_, h3_⟩, h4_⟩ := hk; first | exact ⟨h1_, h2_, h3_, h4_⟩ | exact ⟨h1_, h3_, h2_, h4_⟩ | exact ⟨h1_, h4_, h2_, h3_⟩ | exact ⟨h1_, h4_, h3_, h2_⟩ | exact ⟨h1_, h2_, h4_, h3_⟩ | exact ⟨h1_, h3_, h4_, h2_⟩))), (by (with_reducible repeat (first | apply Kd.N_alloc | apply Kd.N_drewN | apply Kd.N_drew)); exact Kd.N_mono HO440.out (fun _ hk => ⟨hk.1.1, ⟨hk.1.2, hk.2⟩⟩)), blkz, blkz, GW457.out, GE457.out, NB437_457.out, NB457_437.out, bel⟩)
      rintro gb457 w25 ⟨hS_, h0_, h1_, h2_, h3_, h4_, h5_, h6_, h7_, h8_⟩
      have n0_ : Aside0 (Kd.V (Kd.int .i64) 3 w25 w.heap.size (fun k_ => (P1_ k_ ∨ w.heap.size ≤ k_) ∧ some k_ ≠ (.slice Ao18 y438.length co18 : Value).ownBlock ∧ k_ ≠ gb437 ∧ k_ ≠ gb457) (.slice A1 l1.length c1) l1) := ⟨h0_⟩
      have n1_ : Aside0 (Kd.N (Kd.slice 3 (Kd.int .i64)) 25 w25 w.heap.size (fun k_ => (P1_ k_ ∨ w.heap.size ≤ k_) ∧ k_ ≠ gb437 ∧ k_ ≠ gb457) (.slice Ao18 y438.length co18) y438) := ⟨h1_⟩
      have n2_ : Aside0 (w25.heap[gb437]? = some (.cells #[.int .i64 a0_0, .slice (some ad449) l0_1.length c0_1] 24 (0, 0))) := ⟨h2_⟩
      have n3_ : Aside0 (w25.heap[gb457]? = some (.cells #[.int .i64 0, .int .i64 0, .int .i64 0, .int .i64 0, .int .i64 0, .int .i64 0] 70 (0, 0))) := ⟨h3_⟩
      have n4_ : Aside0 (w.heap.size ≤ gb457) := ⟨h4_⟩
      have n5_ : Aside0 (w.heap.size ≤ gb457) := ⟨h5_⟩
      have n6_ : Aside0 (gb437 ≠ gb457) := ⟨h6_⟩
      have n7_ : Aside0 (gb457 ≠ gb437) := ⟨h7_⟩
      have n8_ : Aside0 (Below w.heap.size w w25) := ⟨h8_⟩
      clear HO1
      clear HO440
      clear BK437
      clear HB
      clear h0_ h1_ h2_ h3_ h4_ h5_ h6_ h7_ h8_
      have HO1 := n0_
      have HO440 := n1_
      have BK437 := n2_
      have BK457 := n3_
      have GW457 := n4_
      have GE457 := n5_
      have NB437_457 := n6_
      have NB457_437 := n7_
      have HB := n8_
      clear n0_ n1_ n2_ n3_ n4_ n5_ n6_ n7_ n8_
      have hHeld : w25.cell? ⟨gb437, 0, none⟩ = some (.int .i64 a0_0) ∧ w25.cell? ⟨gb437, 1, none⟩ = some (.slice (some ad449) l0_1.length c0_1) ∧ w25.cell? (ad449.add ((a2).toNat * 2)) = some (.slice A449_0 ((rd_T64 l0_1 a2).f0).length c449_0) ∧ w25.cell? ⟨(ad449.add ((a2).toNat * 2)).block, (ad449.add ((a2).toNat * 2)).off + 1, none⟩ = some (.slice A449_1 ((rd_T64 l0_1 a2).f1).length c449_1) := hS_
      refine norm_ (a' := ?_) ?_ ?_
      rotate_left
      ·
       simp only [putAll, Act.put, List.setIfInBounds_toArray, List.set_cons_zero, List.set_cons_succ]
       rfl
      refine one_ (i := 12) (N := none) #[true, true, true, true, true, true, true, true, true, true, true, true, true, false] rfl rfl (one_of HT_.out (by kernel_rfl)) (by decide) (fun K hK => ?_)
      have hs26 : w25.cell? ⟨gb457, 0, none⟩ = some (.int .i64 0) := (blk_cell BK457.out 0).trans rfl
      have hfs26 := blk_frozen BK457.out 0
      have hns26_0 := NB437_457.out
      have hms26_0 := NB457_437.out
      have hs27 : w25.cell? ⟨gb457, 1, none⟩ = some (.int .i64 0) := (blk_cell BK457.out 1).trans rfl
      have hfs27 := blk_frozen BK457.out 1
      have hns27_0 := NB437_457.out
      have hms27_0 := NB457_437.out
      have hs28 : w25.cell? ⟨gb457, 2, none⟩ = some (.int .i64 0) := (blk_cell BK457.out 2).trans rfl
      have hfs28 := blk_frozen BK457.out 2
      have hns28_0 := NB437_457.out
      have hms28_0 := NB457_437.out
      have hs29 : w25.cell? ⟨gb457, 3, none⟩ = some (.int .i64 0) := (blk_cell BK457.out 3).trans rfl
      have hfs29 := blk_frozen BK457.out 3
      have hns29_0 := NB437_457.out
      have hms29_0 := NB457_437.out
      have hs30 : w25.cell? ⟨gb457, 4, none⟩ = some (.int .i64 0) := (blk_cell BK457.out 4).trans rfl
      have hfs30 := blk_frozen BK457.out 4
      have hns30_0 := NB437_457.out
      have hms30_0 := NB457_437.out
      have hs31 : w25.cell? ⟨gb457, 5, none⟩ = some (.int .i64 0) := (blk_cell BK457.out 5).trans rfl
      have hfs31 := blk_frozen BK457.out 5
      have hns31_0 := NB437_457.out
      have hms31_0 := NB457_437.out
      refine skip_ (w1 := ?_) (by rfl) rfl ?_ ?_
      rotate_left
      ·
       go_simp
       rfl
      refine hK.out _ _ ⟨((cell_far (p := ⟨gb457, _, none⟩) NB437_457.out _).trans (((cell_far (p := ⟨gb457, _, none⟩) NB437_457.out _).trans (((cell_far (p := ⟨gb457, _, none⟩) NB437_457.out _).trans (((cell_far (p := ⟨gb457, _, none⟩) NB437_457.out _).trans (((cell_far (p := ⟨gb457, _, none⟩) NB437_457.out _).trans (((cell_far (p := ⟨gb457, _, none⟩) NB437_457.out _).trans (hHeld.1)))))))))))), ((cell_far (p := ⟨gb457, _, none⟩) NB437_457.out _).trans (((cell_far (p := ⟨gb457, _, none⟩) NB437_457.out _).trans (((cell_far (p := ⟨gb457, _, none⟩) NB437_457.out _).trans (((cell_far (p := ⟨gb457, _, none⟩) NB437_457.out _).trans (((cell_far (p := ⟨gb457, _, none⟩) NB437_457.out _).trans (((cell_far (p := ⟨gb457, _, none⟩) NB437_457.out _).trans (hHeld.2.1)))))))))))), ((cell_far (p := ⟨gb457, _, none⟩) (by first | exact Nat.ne_of_lt (Nat.lt_of_lt_of_le (by have := World.block_lt_of_cell? _ _ hw449_0; first | rwa [add_block] at this | exact this) GW457.out) | (rw [add_block]; exact Nat.ne_of_lt (Nat.lt_of_lt_of_le (by have := World.block_lt_of_cell? _ _ hw449_0; first | rwa [add_block] at this | exact this) GW457.out)) | (show (Addr.add _ _).block ≠ _; rw [add_block]; exact Nat.ne_of_lt (Nat.lt_of_lt_of_le (by have := World.block_lt_of_cell? _ _ hw449_0; first | rwa [add_block] at this | exact this) GW457.out)) | (dsimp only; exact Nat.ne_of_lt (Nat.lt_of_lt_of_le (by have := World.block_lt_of_cell? _ _ hw449_0; first | rwa [add_block] at this | exact this) GW457.out))) _).trans (((cell_far (p := ⟨gb457, _, none⟩) (by first | exact Nat.ne_of_lt (Nat.lt_of_lt_of_le (by have := World.block_lt_of_cell? _ _ hw449_0; first | rwa [add_block] at this | exact this) GW457.out) | (rw [add_block]; exact Nat.ne_of_lt (Nat.lt_of_lt_of_le (by have := World.block_lt_of_cell? _ _ hw449_0; first | rwa [add_block] at this | exact this) GW457.out)) | (show (Addr.add _ _).block ≠ _; rw [add_block]; exact Nat.ne_of_lt (Nat.lt_of_lt_of_le (by have := World.block_lt_of_cell? _ _ hw449_0; first | rwa [add_block] at this | exact this) GW457.out)) | (dsimp only; exact Nat.ne_of_lt (Nat.lt_of_lt_of_le (by have := World.block_lt_of_cell? _ _ hw449_0; first | rwa [add_block] at this | exact this) GW457.out))) _).trans (((cell_far (p := ⟨gb457, _, none⟩) (by first | exact Nat.ne_of_lt (Nat.lt_of_lt_of_le (by have := World.block_lt_of_cell? _ _ hw449_0; first | rwa [add_block] at this | exact this) GW457.out) | (rw [add_block]; exact Nat.ne_of_lt (Nat.lt_of_lt_of_le (by have := World.block_lt_of_cell? _ _ hw449_0; first | rwa [add_block] at this | exact this) GW457.out)) | (show (Addr.add _ _).block ≠ _; rw [add_block]; exact Nat.ne_of_lt (Nat.lt_of_lt_of_le (by have := World.block_lt_of_cell? _ _ hw449_0; first | rwa [add_block] at this | exact this) GW457.out)) | (dsimp only; exact Nat.ne_of_lt (Nat.lt_of_lt_of_le (by have := World.block_lt_of_cell? _ _ hw449_0; first | rwa [add_block] at this | exact this) GW457.out))) _).trans (((cell_far (p := ⟨gb457, _, none⟩) (by first | exact Nat.ne_of_lt (Nat.lt_of_lt_of_le (by have := World.block_lt_of_cell? _ _ hw449_0; first | rwa [add_block] at this | exact this) GW457.out) | (rw [add_block]; exact Nat.ne_of_lt (Nat.lt_of_lt_of_le (by have := World.block_lt_of_cell? _ _ hw449_0; first | rwa [add_block] at this | exact this) GW457.out)) | (show (Addr.add _ _).block ≠ _; rw [add_block]; exact Nat.ne_of_lt (Nat.lt_of_lt_of_le (by have := World.block_lt_of_cell? _ _ hw449_0; first | rwa [add_block] at this | exact this) GW457.out)) | (dsimp only; exact Nat.ne_of_lt (Nat.lt_of_lt_of_le (by have := World.block_lt_of_cell? _ _ hw449_0; first | rwa [add_block] at this | exact this) GW457.out))) _).trans (((cell_far (p := ⟨gb457, _, none⟩) (by first | exact Nat.ne_of_lt (Nat.lt_of_lt_of_le (by have := World.block_lt_of_cell? _ _ hw449_0; first | rwa [add_block] at this | exact this) GW457.out) | (rw [add_block]; exact Nat.ne_of_lt (Nat.lt_of_lt_of_le (by have := World.block_lt_of_cell? _ _ hw449_0; first | rwa [add_block] at this | exact this) GW457.out)) | (show (Addr.add _ _).block ≠ _; rw [add_block]; exact Nat.ne_of_lt (Nat.lt_of_lt_of_le (by have := World.block_lt_of_cell? _ _ hw449_0; first | rwa [add_block] at this | exact this) GW457.out)) | (dsimp only; exact Nat.ne_of_lt (Nat.lt_of_lt_of_le (by have := World.block_lt_of_cell? _ _ hw449_0; first | rwa [add_block] at this | exact this) GW457.out))) _).trans (((cell_far (p := ⟨gb457, _, none⟩) (by first | exact Nat.ne_of_lt (Nat.lt_of_lt_of_le (by have := World.block_lt_of_cell? _ _ hw449_0; first | rwa [add_block] at this | exact this) GW457.out) | (rw [add_block]; exact Nat.ne_of_lt (Nat.lt_of_lt_of_le (by have := World.block_lt_of_cell? _ _ hw449_0; first | rwa [add_block] at this | exact this) GW457.out)) | (show (Addr.add _ _).block ≠ _; rw [add_block]; exact Nat.ne_of_lt (Nat.lt_of_lt_of_le (by have := World.block_lt_of_cell? _ _ hw449_0; first | rwa [add_block] at this | exact this) GW457.out)) | (dsimp only; exact Nat.ne_of_lt (Nat.lt_of_lt_of_le (by have := World.block_lt_of_cell? _ _ hw449_0; first | rwa [add_block] at this | exact this) GW457.out))) _).trans (hHeld.2.2.1)))))))))))), ((cell_far (p := ⟨gb457, _, none⟩) (by first | exact Nat.ne_of_lt (Nat.lt_of_lt_of_le (by have := World.block_lt_of_cell? _ _ hw449_1; first | rwa [add_block] at this | exact this) GW457.out) | (rw [add_block]; exact Nat.ne_of_lt (Nat.lt_of_lt_of_le (by have := World.block_lt_of_cell? _ _ hw449_1; first | rwa [add_block] at this | exact this) GW457.out)) | (show (Addr.add _ _).block ≠ _; rw [add_block]; exact Nat.ne_of_lt (Nat.lt_of_lt_of_le (by have := World.block_lt_of_cell? _ _ hw449_1; first | rwa [add_block] at this | exact this) GW457.out)) | (dsimp only; exact Nat.ne_of_lt (Nat.lt_of_lt_of_le (by have := World.block_lt_of_cell? _ _ hw449_1; first | rwa [add_block] at this | exact this) GW457.out))) _).trans (((cell_far (p := ⟨gb457, _, none⟩) (by first | exact Nat.ne_of_lt (Nat.lt_of_lt_of_le (by have := World.block_lt_of_cell? _ _ hw449_1; first | rwa [add_block] at this | exact this) GW457.out) | (rw [add_block]; exact Nat.ne_of_lt (Nat.lt_of_lt_of_le (by have := World.block_lt_of_cell? _ _ hw449_1; first | rwa [add_block] at this | exact this) GW457.out)) | (show (Addr.add _ _).block ≠ _; rw [add_block]; exact Nat.ne_of_lt (Nat.lt_of_lt_of_le (by have := World.block_lt_of_cell? _ _ hw449_1; first | rwa [add_block] at this | exact this) GW457.out)) | (dsimp only; exact Nat.ne_of_lt (Nat.lt_of_lt_of_le (by have := World.block_lt_of_cell? _ _ hw449_1; first | rwa [add_block] at this | exact this) GW457.out))) _).trans (((cell_far (p := ⟨gb457, _, none⟩) (by first | exact Nat.ne_of_lt (Nat.lt_of_lt_of_le (by have := World.block_lt_of_cell? _ _ hw449_1; first | rwa [add_block] at this | exact this) GW457.out) | (rw [add_block]; exact Nat.ne_of_lt (Nat.lt_of_lt_of_le (by have := World.block_lt_of_cell? _ _ hw449_1; first | rwa [add_block] at this | exact this) GW457.out)) | (show (Addr.add _ _).block ≠ _; rw [add_block]; exact Nat.ne_of_lt (Nat.lt_of_lt_of_le (by have := World.block_lt_of_cell? _ _ hw449_1; first | rwa [add_block] at this | exact this) GW457.out)) | (dsimp only; exact Nat.ne_of_lt (Nat.lt_of_lt_of_le (by have := World.block_lt_of_cell? _ _ hw449_1; first | rwa [add_block] at this | exact this) GW457.out))) _).trans (((cell_far (p := ⟨gb457, _, none⟩) (by first | exact Nat.ne_of_lt (Nat.lt_of_lt_of_le (by have := World.block_lt_of_cell? _ _ hw449_1; first | rwa [add_block] at this | exact this) GW457.out) | (rw [add_block]; exact Nat.ne_of_lt (Nat.lt_of_lt_of_le (by have := World.block_lt_of_cell? _ _ hw449_1; first | rwa [add_block] at this | exact this) GW457.out)) | (show (Addr.add _ _).block ≠ _; rw [add_block]; exact Nat.ne_of_lt (Nat.lt_of_lt_of_le (by have := World.block_lt_of_cell? _ _ hw449_1; first | rwa [add_block] at this | exact this) GW457.out)) | (dsimp only; exact Nat.ne_of_lt (Nat.lt_of_lt_of_le (by have := World.block_lt_of_cell? _ _ hw449_1; first | rwa [add_block] at this | exact this) GW457.out))) _).trans (((cell_far (p := ⟨gb457, _, none⟩) (by first | exact Nat.ne_of_lt (Nat.lt_of_lt_of_le (by have := World.block_lt_of_cell? _ _ hw449_1; first | rwa [add_block] at this | exact this) GW457.out) | (rw [add_block]; exact Nat.ne_of_lt (Nat.lt_of_lt_of_le (by have := World.block_lt_of_cell? _ _ hw449_1; first | rwa [add_block] at this | exact this) GW457.out)) | (show (Addr.add _ _).block ≠ _; rw [add_block]; exact Nat.ne_of_lt (Nat.lt_of_lt_of_le (by have := World.block_lt_of_cell? _ _ hw449_1; first | rwa [add_block] at this | exact this) GW457.out)) | (dsimp only; exact Nat.ne_of_lt (Nat.lt_of_lt_of_le (by have := World.block_lt_of_cell? _ _ hw449_1; first | rwa [add_block] at this | exact this) GW457.out))) _).trans (((cell_far (p := ⟨gb457, _, none⟩) (by first | exact Nat.ne_of_lt (Nat.lt_of_lt_of_le (by have := World.block_lt_of_cell? _ _ hw449_1; first | rwa [add_block] at this | exact this) GW457.out) | (rw [add_block]; exact Nat.ne_of_lt (Nat.lt_of_lt_of_le (by have := World.block_lt_of_cell? _ _ hw449_1; first | rwa [add_block] at this | exact this) GW457.out)) | (show (Addr.add _ _).block ≠ _; rw [add_block]; exact Nat.ne_of_lt (Nat.lt_of_lt_of_le (by have := World.block_lt_of_cell? _ _ hw449_1; first | rwa [add_block] at this | exact this) GW457.out)) | (dsimp only; exact Nat.ne_of_lt (Nat.lt_of_lt_of_le (by have := World.block_lt_of_cell? _ _ hw449_1; first | rwa [add_block] at this | exact this) GW457.out))) _).trans (hHeld.2.2.2))))))))))))⟩ (fun hHeld => ?_)
      clear hK K
      refine pst (i := 13) (N := some 10) (bz 14 16383) (any_of HT_.out (by kernel_rfl)) ?_
      refine done_ (done_of HT_.out (by kernel_rfl)) ?_
      have hnb32 := NB457_437.out
      have hnc32 := NB437_457.out
      obtain ⟨hcz33_0, hcz33_1, hcz33_2, hcz33_3, hcz33_4, hcz33_5⟩ := bc6 BK457.out
      obtain ⟨hfz33_0, hfz33_1, hfz33_2, hfz33_3, hfz33_4, hfz33_5⟩ := bf6 BK457.out
      obtain ⟨hcz34_0, hcz34_1⟩ := bc2 BK437.out
      obtain ⟨hfz34_0, hfz34_1⟩ := bf2 BK437.out
      try go_wp2_with (first | ((with_reducible refine gate_callee (f := 55) rfl ?_); refine goesL_ (some 43) rfl rfl Try.func55 (by kernel_rfl) rfl #[.agg #[.int .i64 t450, .int .i64 t451, .int .i64 t452, .int .i64 t453, .int .i64 t454, .int .i64 t455], .int .i64 a0_0] rfl mapz ?_; (with_reducible refine (key_keys_list.calls t450 t451 t452 t453 t454 t455 a0_0 t458 _ A13.out).mono ?_); rintro e w35 ⟨v459, rfl, ho0, hb⟩; refine ⟨_, rfl, ?_⟩; have HO460 := Aside0.mk (Kd.R_lower (Kd.R_newM (M := fun k_ => (w.heap.size ≤ k_)) ho0 (below_size bel) (fun k_ h_ => h_)) (below_size bel)); replace HO1 := Aside0.mk (Kd.V_elder' (by (with_reducible repeat (first | apply Kd.V_alloc | apply Kd.V_drewN | apply Kd.V_drew)); exact (Kd.V_mono (Kd.V_far (p := ⟨gb457, 5, none⟩) (Kd.V_far (p := ⟨gb457, 4, none⟩) (Kd.V_far (p := ⟨gb457, 3, none⟩) (Kd.V_far (p := ⟨gb457, 2, none⟩) (Kd.V_far (p := ⟨gb457, 1, none⟩) (Kd.V_far (p := ⟨gb457, 0, none⟩) (Kd.V_mono HO1.out (fun k_ hk => (⟨hk, hk.2.2.2⟩ : _ ∧ k_ ≠ gb457))) (fun _ hk => hk.2) (.int .i64 t450)) (fun _ hk => hk.2) (.int .i64 t451)) (fun _ hk => hk.2) (.int .i64 t452)) (fun _ hk => hk.2) (.int .i64 t453)) (fun _ hk => hk.2) (.int .i64 t454)) (fun _ hk => hk.2) (.int .i64 t455)) (fun _ h_ => h_.1))) (Kd.R_base ho0) hb); replace HO440 := Aside0.mk (Kd.N_elder' (by (with_reducible repeat (first | apply Kd.N_alloc | apply Kd.N_drewN | apply Kd.N_drew)); exact (Kd.N_mono (Kd.N_far (p := ⟨gb457, 5, none⟩) (Kd.N_far (p := ⟨gb457, 4, none⟩) (Kd.N_far (p := ⟨gb457, 3, none⟩) (Kd.N_far (p := ⟨gb457, 2, none⟩) (Kd.N_far (p := ⟨gb457, 1, none⟩) (Kd.N_far (p := ⟨gb457, 0, none⟩) (Kd.N_mono HO440.out (fun k_ hk => (⟨hk, hk.2.2⟩ : _ ∧ k_ ≠ gb457))) (fun _ hk => hk.2) (.int .i64 t450)) (fun _ hk => hk.2) (.int .i64 t451)) (fun _ hk => hk.2) (.int .i64 t452)) (fun _ hk => hk.2) (.int .i64 t453)) (fun _ hk => hk.2) (.int .i64 t454)) (fun _ hk => hk.2) (.int .i64 t455)) (fun _ h_ => h_.1))) (Kd.R_base ho0) hb); replace BK437 := Aside0.mk (blk_below (g := gb437) (o := .cells #[.int .i64 a0_0, .slice (some ad449) l0_1.length c0_1] 24 (0, 0)) (by (with_reducible repeat (first | refine blk_drewN ?_ _ | refine blk_drew ?_ | refine blk_alloc ?_ _)); refine blk_far ?_ NB437_457.out _; (with_reducible repeat (first | refine blk_drewN ?_ _ | refine blk_drew ?_ | refine blk_alloc ?_ _)); refine blk_far ?_ NB437_457.out _; (with_reducible repeat (first | refine blk_drewN ?_ _ | refine blk_drew ?_ | refine blk_alloc ?_ _)); refine blk_far ?_ NB437_457.out _; (with_reducible repeat (first | refine blk_drewN ?_ _ | refine blk_drew ?_ | refine blk_alloc ?_ _)); refine blk_far ?_ NB437_457.out _; (with_reducible repeat (first | refine blk_drewN ?_ _ | refine blk_drew ?_ | refine blk_alloc ?_ _)); refine blk_far ?_ NB437_457.out _; (with_reducible repeat (first | refine blk_drewN ?_ _ | refine blk_drew ?_ | refine blk_alloc ?_ _)); refine blk_far ?_ NB437_457.out _; (with_reducible repeat (first | refine blk_drewN ?_ _ | refine blk_drew ?_ | refine blk_alloc ?_ _)); exact BK437.out) hb); replace BK457 := Aside0.mk (blk_below (g := gb457) (o := .cells #[.int .i64 t450, .int .i64 t451, .int .i64 t452, .int .i64 t453, .int .i64 t454, .int .i64 t455] 70 (0, 0)) (by (with_reducible repeat (first | refine blk_drewN ?_ _ | refine blk_drew ?_ | refine blk_alloc ?_ _)); refine blk_put (cs := #[.int .i64 t450, .int .i64 t451, .int .i64 t452, .int .i64 t453, .int .i64 t454, .int .i64 0]) ?_ 5 _ rfl; (with_reducible repeat (first | refine blk_drewN ?_ _ | refine blk_drew ?_ | refine blk_alloc ?_ _)); refine blk_put (cs := #[.int .i64 t450, .int .i64 t451, .int .i64 t452, .int .i64 t453, .int .i64 0, .int .i64 0]) ?_ 4 _ rfl; (with_reducible repeat (first | refine blk_drewN ?_ _ | refine blk_drew ?_ | refine blk_alloc ?_ _)); refine blk_put (cs := #[.int .i64 t450, .int .i64 t451, .int .i64 t452, .int .i64 0, .int .i64 0, .int .i64 0]) ?_ 3 _ rfl; (with_reducible repeat (first | refine blk_drewN ?_ _ | refine blk_drew ?_ | refine blk_alloc ?_ _)); refine blk_put (cs := #[.int .i64 t450, .int .i64 t451, .int .i64 0, .int .i64 0, .int .i64 0, .int .i64 0]) ?_ 2 _ rfl; (with_reducible repeat (first | refine blk_drewN ?_ _ | refine blk_drew ?_ | refine blk_alloc ?_ _)); refine blk_put (cs := #[.int .i64 t450, .int .i64 0, .int .i64 0, .int .i64 0, .int .i64 0, .int .i64 0]) ?_ 1 _ rfl; (with_reducible repeat (first | refine blk_drewN ?_ _ | refine blk_drew ?_ | refine blk_alloc ?_ _)); refine blk_put (cs := #[.int .i64 0, .int .i64 0, .int .i64 0, .int .i64 0, .int .i64 0, .int .i64 0]) ?_ 0 _ rfl; (with_reducible repeat (first | refine blk_drewN ?_ _ | refine blk_drew ?_ | refine blk_alloc ?_ _)); exact BK457.out) hb); replace HB := Aside0.mk (below_step bel hb); (try clear hb); (try clear hb2); (try clear hk); (try clear hi); (try clear ho0)))
      go_ret2
      exact ⟨_, ezz, by (with_reducible repeat (first | apply Kd.R_alloc | apply Kd.R_drewN | apply Kd.R_drew)); exact Kd.R_mono HO460.out (fun _ hk => hk.1), bel⟩
     ·
      replace c12 := Bool.eq_false_iff.mpr c12
      subst c12
      rw [if_neg (show ¬ (false = true) by decide)] at H
      simp only [Option.some.injEq, Prod.mk.injEq] at H
      obtain ⟨rfl, rfl⟩ := H
      go_enter Try.func41, Try.ntmps41
      try go_wp2_with (first | ((with_reducible refine gate_dst (N := 3) rfl ?_); refine box_event ?hg (N := 3) ?hd (cs := #[.int .i64 a0_0, .slice A0_1 l0_1.length c0_1]) (t := 24) ?hr ?_; (case hd => rfl); (case hg => rfl); (case hr => first | (go_simp; done) | (go_simp; rfl)); intro gb437 hg w36 hbox hb; have BK437 := Aside0.mk (hbox); have GW437 := bsz (w := w) hg; have GE437 := GW437; replace HO1 := Aside0.mk (Kd.V_below (Kd.V_elderB (by (with_reducible repeat (first | apply Kd.V_alloc | apply Kd.V_drewN | apply Kd.V_drew)); exact HO1.out) gb437 (Nat.le_of_eq hg.symm)) hb); replace HB := Aside0.mk (below_step bel hb); clear hb hbox hg; obtain ⟨hcz37_0, hcz37_1⟩ := bc2 BK437.out) | ((with_reducible refine gate_dst (N := 13) rfl ?_); refine Kd.N_lit (Kd.slice 3 (Kd.int .i64)) _ 25 ?hg (N' := 13) ?hd (xs := ([l1] : List (List Int))) (inner := [.slice A1 l1.length c1]) (ok := (fun k_ => (P1_ k_ ∨ w.heap.size ≤ k_) ∧ k_ ≠ gb437)) (okp := (fun k_ => (P1_ k_ ∨ w.heap.size ≤ k_) ∧ k_ ≠ gb437)) ?hr ?hp (fun _ hk => hk) ((show ∀ k_, w36.heap.size ≤ k_ → (fun k_ => (P1_ k_ ∨ w.heap.size ≤ k_) ∧ k_ ≠ gb437) k_ from fun k_ hk => ⟨(.inr (Nat.le_trans (below_size bel) hk)), Kd.freshB (g := gb437) (o := .cells #[.int .i64 a0_0, .slice A0_1 l0_1.length c0_1] 24 (0, 0)) blkz k_ hk⟩) _ (Nat.le_refl _)) (Below.refl _ _) (Nat.le_refl _) (by simp) ?_; (case hd => rfl); (case hg => rfl); (case hr => first | (go_simp; done) | (go_simp; rfl)); (case hp => exact (Reps.one (show Kd.FK (Kd.slice 3 (Kd.int .i64)) _ _ l1 [.slice A1 l1.length c1] from (Kd.FK_slice_mk (Kd.V_reads' (Kd.V_mono (ok' := (fun k_ => (P1_ k_ ∨ w.heap.size ≤ k_) ∧ k_ ≠ gb437)) (HO1.out) (fun k_ hk => ⟨hk.1, hk.2⟩))).2.1 (Kd.V_F (Kd.V_mono (ok' := (fun k_ => (P1_ k_ ∨ w.heap.size ≤ k_) ∧ k_ ≠ gb437)) (HO1.out) (fun k_ hk => ⟨hk.1, hk.2⟩))))) (Reps.none _ _))); intro v439 w38 ho39 hb hg_ hnew_; clear hg_ hnew_; (first | rw [← Ny438.out] at ho39 | (simp only [Int.reduceToNat] at ho39; rw [← Ny438.out] at ho39)); have HO440 := Aside0.mk (Kd.N_lower ho39 (below_size bel)); replace HO1 := Aside0.mk (Kd.V_elder' (by (with_reducible repeat (first | apply Kd.V_alloc | apply Kd.V_drewN | apply Kd.V_drew)); exact HO1.out) (Kd.N_base ho39) hb); replace BK437 := Aside0.mk (blk_below (g := gb437) blkz hb); replace HB := Aside0.mk (below_step bel hb); clear hb ho39; obtain ⟨Ao40, co40, eo40⟩ := Kd.N_slice HO440.out; subst eo40) | ((with_reducible refine gate_callee (f := 68) rfl ?_); refine goesL_ (some 14) rfl rfl Try.func68 (by kernel_rfl) rfl #[.agg #[.int .i64 a0_0, .slice A0_1 l0_1.length c0_1], .slice Ao40 y438.length co40] rfl mapz ?_; (with_reducible refine (key_open.calls a0_0 _ _ l0_1 _ _ y438 t441 _ (cbz HR0_1) HC0_1.out ?side3 ?side4 A4.out).mono ?_); (case side3 => repeat (first | exact (Kd.N_reads' HO440.out).2.2 | (with_reducible refine Kd.C_alloc ?_ _) | (with_reducible refine Kd.C_drewN ?_ _) | (with_reducible refine Kd.C_drew ?_))); (case side4 => exact (Kd.N_reads' HO440.out).2.1); rintro e w41 ⟨rfl, hb⟩; refine ⟨_, rfl, ?_⟩; replace HO1 := Aside0.mk (Kd.V_below (by (with_reducible repeat (first | apply Kd.V_alloc | apply Kd.V_drewN | apply Kd.V_drew)); exact HO1.out) hb); replace HO440 := Aside0.mk (Kd.N_below (by (with_reducible repeat (first | apply Kd.N_alloc | apply Kd.N_drewN | apply Kd.N_drew)); exact HO440.out) hb); replace BK437 := Aside0.mk (blk_below (g := gb437) blkz hb); replace HB := Aside0.mk (below_step bel hb); clear hb; obtain ⟨hcz42_0, hcz42_1⟩ := bc2 BK437.out) | ((with_reducible refine gate_callee (f := 78) rfl ?_); refine goesL_ (some 25) rfl rfl Try.func78 (by kernel_rfl) rfl #[.int .i64 0, .int .i64 a2, .int .i64 (wrap64 ((l0_1.length : Int) - 1))] rfl mapz ?_; (with_reducible refine (key_within.calls 0 a2 (wrap64 ((l0_1.length : Int) - 1)) true _ A6.out).mono ?_); rintro e w' ⟨rfl, ⟨nd, rfl⟩⟩; refine ⟨_, rfl, ?_⟩; (try (rw [drewN_self w41]; generalize hq_ : World.drewN w41 _ = w41; have n0_ : Aside0 (Kd.V (Kd.int .i64) 3 w41 w.heap.size (fun k_ => (P1_ k_ ∨ w.heap.size ≤ k_) ∧ some k_ ≠ (.slice Ao40 y438.length co40 : Value).ownBlock ∧ k_ ≠ gb437) (.slice A1 l1.length c1) l1) := ⟨by rw [← hq_]; exact (by (with_reducible repeat (first | apply Kd.V_alloc | apply Kd.V_drewN | apply Kd.V_drew)); exact Kd.V_mono HO1.out (fun _ hk => ⟨hk.1.1, ⟨hk.2, hk.1.2⟩⟩))⟩; have n1_ : Aside0 (Kd.N (Kd.slice 3 (Kd.int .i64)) 25 w41 w.heap.size (fun k_ => (P1_ k_ ∨ w.heap.size ≤ k_) ∧ k_ ≠ gb437) (.slice Ao40 y438.length co40) y438) := ⟨by rw [← hq_]; exact (by (with_reducible repeat (first | apply Kd.N_alloc | apply Kd.N_drewN | apply Kd.N_drew)); exact HO440.out)⟩; have n2_ : Aside0 (w41.heap[gb437]? = some (.cells #[.int .i64 a0_0, .slice A0_1 l0_1.length c0_1] 24 (0, 0))) := ⟨by rw [← hq_]; exact blkz⟩; have n3_ : Aside0 (Below w.heap.size w w41) := ⟨by rw [← hq_]; exact bel⟩; clear HO1 HO440 BK437 HB hq_; have HO1 := n0_; have HO440 := n1_; have BK437 := n2_; have HB := n3_; clear n0_ n1_ n2_ n3_))))
      have n0_ := Aside0.mk (Kd.V_drew HO1.out)
      have n1_ := Aside0.mk (Kd.N_drew HO440.out)
      have n2_ := Aside0.mk (blk_drew BK437.out)
      have n3_ := Aside0.mk (below_drew1 HB.out)
      clear HO1
      clear HO440
      clear BK437
      clear HB
      have HO1 := n0_
      have HO440 := n1_
      have BK437 := n2_
      have HB := n3_
      clear n0_ n1_ n2_ n3_
      have p449 : 0 ≤ (a2 : Int) := of_decide_eq_true asz
      have q449 : a2 < (l0_1.length : Int) := of_decide_eq_true asz
      obtain ⟨ad449, A449_0, c449_0, A449_1, c449_1, e449, hx449_0, hx449_1, hl449_0, hi449_0, hl449_1, hi449_1⟩ := at_T64 HR0_1.out a2 p449 q449
      have hw449_1 := hx449_1
      have hw449_0 := hx449_0
      cases e449
      replace hx449_0 := (HB.out.cell (World.block_lt_of_cell? w _ hx449_0)).trans hx449_0
      replace hx449_1 := (HB.out.cell (World.block_lt_of_cell? w _ hx449_1)).trans hx449_1
      have HR449_0 := Aside0.mk hi449_0
      have HC449_0 := Aside0.mk hl449_0
      clear hi449_0 hl449_0
      have HR449_1 := Aside0.mk hi449_1
      have HC449_1 := Aside0.mk hl449_1
      clear hi449_1 hl449_1
      replace p449 := eq_true p449
      replace q449 := eq_true q449
      refine start_ (n := 14) (S := fun w' => w'.cell? ⟨gb437, 0, none⟩ = some (.int .i64 a0_0) ∧ w'.cell? ⟨gb437, 1, none⟩ = some (.slice (some ad449) l0_1.length c0_1) ∧ w'.cell? (ad449.add ((a2).toNat * 2)) = some (.slice A449_0 ((rd_T64 l0_1 a2).f0).length c449_0) ∧ w'.cell? ⟨(ad449.add ((a2).toNat * 2)).block, (ad449.add ((a2).toNat * 2)).off + 1, none⟩ = some (.slice A449_1 ((rd_T64 l0_1 a2).f1).length c449_1)) (ds := []) #[false, false, false, false, false, false, false, false, false, false, false, false, false, false] (by kernel_rfl) rfl rfl ⟨(blk_cell BK437.out 0).trans rfl, (blk_cell BK437.out 1).trans rfl, ((HB.out.cell (World.block_lt_of_cell? w _ hw449_0)).trans hw449_0), ((HB.out.cell (World.block_lt_of_cell? w _ hw449_1)).trans hw449_1)⟩ (fun hHeld => ?_); refine with_tabW key_Make.tab6 key_Make.bits6 (fun HT_ HW_ => ?_)
      generalize w41.drew = w43 at HO1 HO440 BK437 HB HR449_0 HR449_1 hx449_0 hx449_1 hHeld ⊢
      refine pst (i := 0) (N := some 28) (bz 14 1) (any_of HT_.out (by kernel_rfl)) ?_
      refine pst (i := 2) (N := some 30) (bz 14 5) (any_of HT_.out (by kernel_rfl)) ?_
      refine pst (i := 4) (N := some 32) (bz 14 21) (any_of HT_.out (by kernel_rfl)) ?_
      refine tst4 (i := 3) (N := some 31) (bz 14 29) (take_ofW HT_.out HW_.out (by kernel_rfl)) hHeld ?_
      refine pst (i := 5) (N := some 33) (bz 14 61) (any_of HT_.out (by kernel_rfl)) ?_
      refine tst4 (i := 6) (N := some 34) (bz 14 125) (take_ofW HT_.out HW_.out (by kernel_rfl)) hHeld ?_
      refine join_ (σ := Nat) 2 #[true, true, true, true, true, true, true, true, true, true, true, true, false, false] (fun s_ => [(29, .agg #[.int .i64 t443, .int .i64 t444, .int .i64 t445, .int .i64 t446, .int .i64 t447, .int .i64 t448]), (35, .tuple #[.agg #[.int .i64 t450, .int .i64 t451, .int .i64 t452, .int .i64 t453, .int .i64 t454, .int .i64 t455], .bool false]), (9, .pointer (some ⟨s_, 0, none⟩)), (27, .tuple #[.agg #[.int .i64 t450, .int .i64 t451, .int .i64 t452, .int .i64 t453, .int .i64 t454, .int .i64 t455], .bool false]), (36, .agg #[.int .i64 t450, .int .i64 t451, .int .i64 t452, .int .i64 t453, .int .i64 t454, .int .i64 t455]), (37, .bool false)]) (fun s_ w' => (w'.cell? ⟨gb437, 0, none⟩ = some (.int .i64 a0_0) ∧ w'.cell? ⟨gb437, 1, none⟩ = some (.slice (some ad449) l0_1.length c0_1) ∧ w'.cell? (ad449.add ((a2).toNat * 2)) = some (.slice A449_0 ((rd_T64 l0_1 a2).f0).length c449_0) ∧ w'.cell? ⟨(ad449.add ((a2).toNat * 2)).block, (ad449.add ((a2).toNat * 2)).off + 1, none⟩ = some (.slice A449_1 ((rd_T64 l0_1 a2).f1).length c449_1)) ∧ (Kd.V (Kd.int .i64) 3 w' w.heap.size (fun k_ => (P1_ k_ ∨ w.heap.size ≤ k_) ∧ some k_ ≠ (.slice Ao40 y438.length co40 : Value).ownBlock ∧ k_ ≠ gb437 ∧ k_ ≠ s_) (.slice A1 l1.length c1) l1) ∧ (Kd.N (Kd.slice 3 (Kd.int .i64)) 25 w' w.heap.size (fun k_ => (P1_ k_ ∨ w.heap.size ≤ k_) ∧ k_ ≠ gb437 ∧ k_ ≠ s_) (.slice Ao40 y438.length co40) y438) ∧ (w'.heap[gb437]? = some (.cells #[.int .i64 a0_0, .slice (some ad449) l0_1.length c0_1] 24 (0, 0))) ∧ (w'.heap[s_]? = some (.cells #[.int .i64 0, .int .i64 0, .int .i64 0, .int .i64 0, .int .i64 0, .int .i64 0] 70 (0, 0))) ∧ (w.heap.size ≤ s_) ∧ (w.heap.size ≤ s_) ∧ (gb437 ≠ s_) ∧ (s_ ≠ gb437) ∧ (Below w.heap.size w w')) ?_ ?_
      rotate_left
      ·
       intro hCont
       refine two_ (i := 1) (j := 11) (Ni := some 29) (Nj := some 9) #[true, true, true, true, true, true, true, false, false, false, false, false, false, false] #[true, false, true, true, true, true, true, false, false, false, false, true, false, false] rfl rfl rfl rfl (two_of HT_.out (by kernel_rfl)) (by decide) (by decide) (fun K hK => ?_) (fun K hK => ?_)
       ·
        skip
        refine goes_ Try.func61 (by kernel_rfl) rfl #[.slice A1 l1.length c1] (by rfl) rfl rfl mapz ?_
        with_reducible refine (key_keysOf.calls _ _ l1 t443 t444 t445 t446 t447 t448 _ ?side1 ?side2 A8.out).mono ?_
        (case side1 => repeat (first | exact (Kd.V_reads' HO1.out).2.2 | (with_reducible refine Kd.C_alloc ?_ _) | (with_reducible refine Kd.C_drewN ?_ _) | (with_reducible refine Kd.C_drew ?_)))
        (case side2 => exact (Kd.V_reads' HO1.out).2.1)
        rintro e w44 ⟨rfl, hb⟩
        refine ⟨_, rfl, ?_⟩
        have n0_ := Aside0.mk (Kd.V_below (by (with_reducible repeat (first | apply Kd.V_alloc | apply Kd.V_drewN | apply Kd.V_drew)); exact HO1.out) hb)
        have n1_ := Aside0.mk (Kd.N_below (by (with_reducible repeat (first | apply Kd.N_alloc | apply Kd.N_drewN | apply Kd.N_drew)); exact HO440.out) hb)
        have n2_ := Aside0.mk (blk_below (g := gb437) blkz hb)
        have n3_ := Aside0.mk (below_step bel hb)
        clear HO1
        clear HO440
        clear BK437
        clear HB
        have HO1 := n0_
        have HO440 := n1_
        have BK437 := n2_
        have HB := n3_
        clear n0_ n1_ n2_ n3_
        (try clear hb)
        (try clear hb2)
        (try clear hk)
        (try clear hi)
        refine hK.out _ _ ⟨(blk_cell BK437.out 0).trans rfl, (blk_cell BK437.out 1).trans rfl, ((HB.out.cell (World.block_lt_of_cell? w _ hw449_0)).trans hw449_0), ((HB.out.cell (World.block_lt_of_cell? w _ hw449_1)).trans hw449_1)⟩ (fun hHeld => ?_)
        clear hK K
        refine norm_ (a' := ?_) ?_ ?_
        rotate_left
        ·
         show Act.put _ (some 29) _ = _
         simp only [Act.put, List.setIfInBounds_toArray, List.set_cons_zero, List.set_cons_succ, i64_w, i32_w]
         rfl
        refine two_ (i := 7) (j := 11) (Ni := some 35) (Nj := some 9) #[true, true, true, true, true, true, true, true, false, false, false, false, false, false] #[true, true, true, true, true, true, true, false, false, false, false, true, false, false] rfl rfl rfl rfl (two_of HT_.out (by kernel_rfl)) (by decide) (by decide) (fun K hK => ?_) (fun K hK => ?_)
        ·
         skip
         refine goes_ Try.func70 (by kernel_rfl) rfl #[.agg #[.int .i64 t443, .int .i64 t444, .int .i64 t445, .int .i64 t446, .int .i64 t447, .int .i64 t448], .agg #[.slice A449_0 ((rd_T64 l0_1 a2).f0).length c449_0, .slice A449_1 ((rd_T64 l0_1 a2).f1).length c449_1]] (by rfl) rfl rfl mapz ?_
         with_reducible refine (key_keys_made.calls t443 t444 t445 t446 t447 t448 _ _ ((rd_T64 l0_1 a2).f0) _ _ ((rd_T64 l0_1 a2).f1) t450 t451 t452 t453 t454 t455 false _ ?side1 ?side2 ?side3 ?side4 A11.out).mono ?_
         (case side1 => exact cbz HR449_0)
         (case side2 => exact HC449_0.out)
         (case side3 => exact cbz HR449_1)
         (case side4 => exact HC449_1.out)
         rintro e w45 ⟨rfl, hb⟩
         refine ⟨_, rfl, ?_⟩
         have n0_ := Aside0.mk (Kd.V_below (by (with_reducible repeat (first | apply Kd.V_alloc | apply Kd.V_drewN | apply Kd.V_drew)); exact HO1.out) hb)
         have n1_ := Aside0.mk (Kd.N_below (by (with_reducible repeat (first | apply Kd.N_alloc | apply Kd.N_drewN | apply Kd.N_drew)); exact HO440.out) hb)
         have n2_ := Aside0.mk (blk_below (g := gb437) blkz hb)
         have n3_ := Aside0.mk (below_step bel hb)
         clear HO1
         clear HO440
         clear BK437
         clear HB
         have HO1 := n0_
         have HO440 := n1_
         have BK437 := n2_
         have HB := n3_
         clear n0_ n1_ n2_ n3_
         (try clear hb)
         (try clear hb2)
         (try clear hk)
         (try clear hi)
         refine hK.out _ _ ⟨(blk_cell BK437.out 0).trans rfl, (blk_cell BK437.out 1).trans rfl, ((HB.out.cell (World.block_lt_of_cell? w _ hw449_0)).trans hw449_0), ((HB.out.cell (World.block_lt_of_cell? w _ hw449_1)).trans hw449_1)⟩ (fun hHeld => ?_)
         clear hK K
         refine norm_ (a' := ?_) ?_ ?_
         rotate_left
         ·
          show Act.put _ (some 35) _ = _
          simp only [Act.put, List.setIfInBounds_toArray, List.set_cons_zero, List.set_cons_succ, i64_w, i32_w]
          rfl
         refine pst (i := 8) (N := some 27) (bz 14 511) (any_of HT_.out (by kernel_rfl)) ?_
         refine pst (i := 9) (N := some 36) (bz 14 1023) (any_of HT_.out (by kernel_rfl)) ?_
         refine pst (i := 10) (N := some 37) (bz 14 2047) (any_of HT_.out (by kernel_rfl)) ?_
         refine one_ (i := 11) (N := some 9) #[true, true, true, true, true, true, true, true, true, true, true, true, false, false] rfl rfl (one_of HT_.out (by kernel_rfl)) (by decide) (fun K hK => ?_)
         refine box_step ?hg (N := 9) ?hd (cs := #[.int .i64 0, .int .i64 0, .int .i64 0, .int .i64 0, .int .i64 0, .int .i64 0]) (t := 70) ?hr ?_; (case hd => rfl); (case hg => rfl); (case hr => first | (go_simp; done) | (go_simp; rfl))
         intro gb457 hg w46 hbox hb
         have n0_ := Aside0.mk (Kd.V_below (Kd.V_elderB (by (with_reducible repeat (first | apply Kd.V_alloc | apply Kd.V_drewN | apply Kd.V_drew)); exact HO1.out) gb457 (Nat.le_of_eq hg.symm)) hb)
         have n1_ := Aside0.mk (Kd.N_below (Kd.N_elderB (by (with_reducible repeat (first | apply Kd.N_alloc | apply Kd.N_drewN | apply Kd.N_drew)); exact HO440.out) gb457 (Nat.le_of_eq hg.symm)) hb)
         have n2_ := Aside0.mk (blk_below (g := gb437) blkz hb)
         have n3_ := Aside0.mk (below_step bel hb)
         have n4_ := Aside0.mk (hbox)
         have n5_ := bsz (w := w) hg
         have n6_ := bsz (w := w) hg
         have n7_ := neL (g := gb437) hg
         have n8_ := neR (g := gb437) hg
         clear HO1
         clear HO440
         clear BK437
         clear HB
         have HO1 := n0_
         have HO440 := n1_
         have BK437 := n2_
         have HB := n3_
         have BK457 := n4_
         have GW457 := n5_
         have GE457 := n6_
         have NB437_457 := n7_
         have NB457_437 := n8_
         clear n0_ n1_ n2_ n3_ n4_ n5_ n6_ n7_ n8_
         clear hb hbox hg
         refine hK.out _ _ ⟨(blk_cell BK437.out 0).trans rfl, (blk_cell BK437.out 1).trans rfl, ((HB.out.cell (World.block_lt_of_cell? w _ hw449_0)).trans hw449_0), ((HB.out.cell (World.block_lt_of_cell? w _ hw449_1)).trans hw449_1)⟩ (fun hHeld => ?_)
         clear hK K
         refine norm_ (a' := ?_) ?_ ?_
         rotate_left
         ·
          show Act.put _ (some 9) _ = _
          simp only [Act.put, List.setIfInBounds_toArray, List.set_cons_zero, List.set_cons_succ, i64_w, i32_w]
          rfl
         exact norm_ (by simp only [putAll, Act.put, List.setIfInBounds_toArray, List.set_cons_zero, List.set_cons_succ]) (hCont (gb457) _ ⟨hHeld, (by (with_reducible repeat (first | apply Kd.V_alloc | apply Kd.V_drewN | apply Kd.V_drew)); exact Kd.V_mono HO1.out (fun _ hk => by first | exact ⟨hk.1.1.1, ⟨hk.1.2, ⟨hk.1.1.2, hk.2⟩⟩⟩ | (obtain ⟨⟨h1_, h2_, h3_⟩, h4_⟩ := hk; first | exact ⟨h1_, h2_, h3_, h4_⟩ | exact ⟨h1_, h3_, h2_, h4_⟩ | exact ⟨h1_, h4_, h2_, h3_⟩ | exact ⟨h1_, h4_, h3_, h2_⟩ | exact ⟨h1_, h2_, h4_, h3_⟩ | exact ⟨h1_, h3_, h4_, h2_⟩))), (by (with_reducible repeat (first | apply Kd.N_alloc | apply Kd.N_drewN | apply Kd.N_drew)); exact Kd.N_mono HO440.out (fun _ hk => ⟨hk.1.1, ⟨hk.1.2, hk.2⟩⟩)), blkz, blkz, GW457.out, GE457.out, NB437_457.out, NB457_437.out, bel⟩)
        ·
         skip
         refine box_step ?hg (N := 9) ?hd (cs := #[.int .i64 0, .int .i64 0, .int .i64 0, .int .i64 0, .int .i64 0, .int .i64 0]) (t := 70) ?hr ?_; (case hd => rfl); (case hg => rfl); (case hr => first | (go_simp; done) | (go_simp; rfl))
         intro gb457 hg w45 hbox hb
         have n0_ := Aside0.mk (Kd.V_below (Kd.V_elderB (by (with_reducible repeat (first | apply Kd.V_alloc | apply Kd.V_drewN | apply Kd.V_drew)); exact HO1.out) gb457 (Nat.le_of_eq hg.symm)) hb)
         have n1_ := Aside0.mk (Kd.N_below (Kd.N_elderB (by (with_reducible repeat (first | apply Kd.N_alloc | apply Kd.N_drewN | apply Kd.N_drew)); exact HO440.out) gb457 (Nat.le_of_eq hg.symm)) hb)
         have n2_ := Aside0.mk (blk_below (g := gb437) blkz hb)
         have n3_ := Aside0.mk (below_step bel hb)
         have n4_ := Aside0.mk (hbox)
         have n5_ := bsz (w := w) hg
         have n6_ := bsz (w := w) hg
         have n7_ := neL (g := gb437) hg
         have n8_ := neR (g := gb437) hg
         clear HO1
         clear HO440
         clear BK437
         clear HB
         have HO1 := n0_
         have HO440 := n1_
         have BK437 := n2_
         have HB := n3_
         have BK457 := n4_
         have GW457 := n5_
         have GE457 := n6_
         have NB437_457 := n7_
         have NB457_437 := n8_
         clear n0_ n1_ n2_ n3_ n4_ n5_ n6_ n7_ n8_
         clear hb hbox hg
         refine hK.out _ _ ⟨(blk_cell BK437.out 0).trans rfl, (blk_cell BK437.out 1).trans rfl, ((HB.out.cell (World.block_lt_of_cell? w _ hw449_0)).trans hw449_0), ((HB.out.cell (World.block_lt_of_cell? w _ hw449_1)).trans hw449_1)⟩ (fun hHeld => ?_)
         clear hK K
         refine norm_ (a' := ?_) ?_ ?_
         rotate_left
         ·
          show Act.put _ (some 9) _ = _
          simp only [Act.put, List.setIfInBounds_toArray, List.set_cons_zero, List.set_cons_succ, i64_w, i32_w]
          rfl
         refine one_ (i := 7) (N := some 35) #[true, true, true, true, true, true, true, true, false, false, false, true, false, false] rfl rfl (one_of HT_.out (by kernel_rfl)) (by decide) (fun K hK => ?_)
         refine goes_ Try.func70 (by kernel_rfl) rfl #[.agg #[.int .i64 t443, .int .i64 t444, .int .i64 t445, .int .i64 t446, .int .i64 t447, .int .i64 t448], .agg #[.slice A449_0 ((rd_T64 l0_1 a2).f0).length c449_0, .slice A449_1 ((rd_T64 l0_1 a2).f1).length c449_1]] (by rfl) rfl rfl mapz ?_
         with_reducible refine (key_keys_made.calls t443 t444 t445 t446 t447 t448 _ _ ((rd_T64 l0_1 a2).f0) _ _ ((rd_T64 l0_1 a2).f1) t450 t451 t452 t453 t454 t455 false _ ?side1 ?side2 ?side3 ?side4 A11.out).mono ?_
         (case side1 => exact cbz HR449_0)
         (case side2 => exact HC449_0.out)
         (case side3 => exact cbz HR449_1)
         (case side4 => exact HC449_1.out)
         rintro e w46 ⟨rfl, hb⟩
         refine ⟨_, rfl, ?_⟩
         have n0_ := Aside0.mk (Kd.V_below (by (with_reducible repeat (first | apply Kd.V_alloc | apply Kd.V_drewN | apply Kd.V_drew)); exact HO1.out) hb)
         have n1_ := Aside0.mk (Kd.N_below (by (with_reducible repeat (first | apply Kd.N_alloc | apply Kd.N_drewN | apply Kd.N_drew)); exact HO440.out) hb)
         have n2_ := Aside0.mk (blk_below (g := gb437) blkz hb)
         have n3_ := Aside0.mk (blk_below (g := gb457) blkz hb)
         have n4_ := Aside0.mk (below_step bel hb)
         clear HO1
         clear HO440
         clear BK437
         clear BK457
         clear HB
         have HO1 := n0_
         have HO440 := n1_
         have BK437 := n2_
         have BK457 := n3_
         have HB := n4_
         clear n0_ n1_ n2_ n3_ n4_
         (try clear hb)
         (try clear hb2)
         (try clear hk)
         (try clear hi)
         refine hK.out _ _ ⟨(blk_cell BK437.out 0).trans rfl, (blk_cell BK437.out 1).trans rfl, ((HB.out.cell (World.block_lt_of_cell? w _ hw449_0)).trans hw449_0), ((HB.out.cell (World.block_lt_of_cell? w _ hw449_1)).trans hw449_1)⟩ (fun hHeld => ?_)
         clear hK K
         refine norm_ (a' := ?_) ?_ ?_
         rotate_left
         ·
          show Act.put _ (some 35) _ = _
          simp only [Act.put, List.setIfInBounds_toArray, List.set_cons_zero, List.set_cons_succ, i64_w, i32_w]
          rfl
         refine pst (i := 8) (N := some 27) (bz 14 2559) (any_of HT_.out (by kernel_rfl)) ?_
         refine pst (i := 9) (N := some 36) (bz 14 3071) (any_of HT_.out (by kernel_rfl)) ?_
         refine pst (i := 10) (N := some 37) (bz 14 4095) (any_of HT_.out (by kernel_rfl)) ?_
         exact norm_ (by simp only [putAll, Act.put, List.setIfInBounds_toArray, List.set_cons_zero, List.set_cons_succ]) (hCont (gb457) _ ⟨hHeld, (by (with_reducible repeat (first | apply Kd.V_alloc | apply Kd.V_drewN | apply Kd.V_drew)); exact Kd.V_mono HO1.out (fun _ hk => by first | exact ⟨hk.1.1.1, ⟨hk.1.2, ⟨hk.1.1.2, hk.2⟩⟩⟩ | (obtain ⟨⟨h1_, h2_, h3_⟩, h4_⟩ := hk; first | exact ⟨h1_, h2_, h3_, h4_⟩ | exact ⟨h1_, h3_, h2_, h4_⟩ | exact ⟨h1_, h4_, h2_, h3_⟩ | exact ⟨h1_, h4_, h3_, h2_⟩ | exact ⟨h1_, h2_, h4_, h3_⟩ | exact ⟨h1_, h3_, h4_, h2_⟩))), (by (with_reducible repeat (first | apply Kd.N_alloc | apply Kd.N_drewN | apply Kd.N_drew)); exact Kd.N_mono HO440.out (fun _ hk => ⟨hk.1.1, ⟨hk.1.2, hk.2⟩⟩)), blkz, blkz, GW457.out, GE457.out, NB437_457.out, NB457_437.out, bel⟩)
       ·
        skip
        refine box_step ?hg (N := 9) ?hd (cs := #[.int .i64 0, .int .i64 0, .int .i64 0, .int .i64 0, .int .i64 0, .int .i64 0]) (t := 70) ?hr ?_; (case hd => rfl); (case hg => rfl); (case hr => first | (go_simp; done) | (go_simp; rfl))
        intro gb457 hg w44 hbox hb
        have n0_ := Aside0.mk (Kd.V_below (Kd.V_elderB (by (with_reducible repeat (first | apply Kd.V_alloc | apply Kd.V_drewN | apply Kd.V_drew)); exact HO1.out) gb457 (Nat.le_of_eq hg.symm)) hb)
        have n1_ := Aside0.mk (Kd.N_below (Kd.N_elderB (by (with_reducible repeat (first | apply Kd.N_alloc | apply Kd.N_drewN | apply Kd.N_drew)); exact HO440.out) gb457 (Nat.le_of_eq hg.symm)) hb)
        have n2_ := Aside0.mk (blk_below (g := gb437) blkz hb)
        have n3_ := Aside0.mk (below_step bel hb)
        have n4_ := Aside0.mk (hbox)
        have n5_ := bsz (w := w) hg
        have n6_ := bsz (w := w) hg
        have n7_ := neL (g := gb437) hg
        have n8_ := neR (g := gb437) hg
        clear HO1
        clear HO440
        clear BK437
        clear HB
        have HO1 := n0_
        have HO440 := n1_
        have BK437 := n2_
        have HB := n3_
        have BK457 := n4_
        have GW457 := n5_
        have GE457 := n6_
        have NB437_457 := n7_
        have NB457_437 := n8_
        clear n0_ n1_ n2_ n3_ n4_ n5_ n6_ n7_ n8_
        clear hb hbox hg
        refine hK.out _ _ ⟨(blk_cell BK437.out 0).trans rfl, (blk_cell BK437.out 1).trans rfl, ((HB.out.cell (World.block_lt_of_cell? w _ hw449_0)).trans hw449_0), ((HB.out.cell (World.block_lt_of_cell? w _ hw449_1)).trans hw449_1)⟩ (fun hHeld => ?_)
        clear hK K
        refine norm_ (a' := ?_) ?_ ?_
        rotate_left
        ·
         show Act.put _ (some 9) _ = _
         simp only [Act.put, List.setIfInBounds_toArray, List.set_cons_zero, List.set_cons_succ, i64_w, i32_w]
         rfl
        refine one_ (i := 1) (N := some 29) #[true, true, true, true, true, true, true, false, false, false, false, true, false, false] rfl rfl (one_of HT_.out (by kernel_rfl)) (by decide) (fun K hK => ?_)
        refine goes_ Try.func61 (by kernel_rfl) rfl #[.slice A1 l1.length c1] (by rfl) rfl rfl mapz ?_
        with_reducible refine (key_keysOf.calls _ _ l1 t443 t444 t445 t446 t447 t448 _ ?side1 ?side2 A8.out).mono ?_
        (case side1 => repeat (first | exact (Kd.V_reads' HO1.out).2.2 | (with_reducible refine Kd.C_alloc ?_ _) | (with_reducible refine Kd.C_drewN ?_ _) | (with_reducible refine Kd.C_drew ?_)))
        (case side2 => exact (Kd.V_reads' HO1.out).2.1)
        rintro e w45 ⟨rfl, hb⟩
        refine ⟨_, rfl, ?_⟩
        have n0_ := Aside0.mk (Kd.V_below (by (with_reducible repeat (first | apply Kd.V_alloc | apply Kd.V_drewN | apply Kd.V_drew)); exact HO1.out) hb)
        have n1_ := Aside0.mk (Kd.N_below (by (with_reducible repeat (first | apply Kd.N_alloc | apply Kd.N_drewN | apply Kd.N_drew)); exact HO440.out) hb)
        have n2_ := Aside0.mk (blk_below (g := gb437) blkz hb)
        have n3_ := Aside0.mk (blk_below (g := gb457) blkz hb)
        have n4_ := Aside0.mk (below_step bel hb)
        clear HO1
        clear HO440
        clear BK437
        clear BK457
        clear HB
        have HO1 := n0_
        have HO440 := n1_
        have BK437 := n2_
        have BK457 := n3_
        have HB := n4_
        clear n0_ n1_ n2_ n3_ n4_
        (try clear hb)
        (try clear hb2)
        (try clear hk)
        (try clear hi)
        refine hK.out _ _ ⟨(blk_cell BK437.out 0).trans rfl, (blk_cell BK437.out 1).trans rfl, ((HB.out.cell (World.block_lt_of_cell? w _ hw449_0)).trans hw449_0), ((HB.out.cell (World.block_lt_of_cell? w _ hw449_1)).trans hw449_1)⟩ (fun hHeld => ?_)
        clear hK K
        refine norm_ (a' := ?_) ?_ ?_
        rotate_left
        ·
         show Act.put _ (some 29) _ = _
         simp only [Act.put, List.setIfInBounds_toArray, List.set_cons_zero, List.set_cons_succ, i64_w, i32_w]
         rfl
        refine one_ (i := 7) (N := some 35) #[true, true, true, true, true, true, true, true, false, false, false, true, false, false] rfl rfl (one_of HT_.out (by kernel_rfl)) (by decide) (fun K hK => ?_)
        refine goes_ Try.func70 (by kernel_rfl) rfl #[.agg #[.int .i64 t443, .int .i64 t444, .int .i64 t445, .int .i64 t446, .int .i64 t447, .int .i64 t448], .agg #[.slice A449_0 ((rd_T64 l0_1 a2).f0).length c449_0, .slice A449_1 ((rd_T64 l0_1 a2).f1).length c449_1]] (by rfl) rfl rfl mapz ?_
        with_reducible refine (key_keys_made.calls t443 t444 t445 t446 t447 t448 _ _ ((rd_T64 l0_1 a2).f0) _ _ ((rd_T64 l0_1 a2).f1) t450 t451 t452 t453 t454 t455 false _ ?side1 ?side2 ?side3 ?side4 A11.out).mono ?_
        (case side1 => exact cbz HR449_0)
        (case side2 => exact HC449_0.out)
        (case side3 => exact cbz HR449_1)
        (case side4 => exact HC449_1.out)
        rintro e w46 ⟨rfl, hb⟩
        refine ⟨_, rfl, ?_⟩
        have n0_ := Aside0.mk (Kd.V_below (by (with_reducible repeat (first | apply Kd.V_alloc | apply Kd.V_drewN | apply Kd.V_drew)); exact HO1.out) hb)
        have n1_ := Aside0.mk (Kd.N_below (by (with_reducible repeat (first | apply Kd.N_alloc | apply Kd.N_drewN | apply Kd.N_drew)); exact HO440.out) hb)
        have n2_ := Aside0.mk (blk_below (g := gb437) blkz hb)
        have n3_ := Aside0.mk (blk_below (g := gb457) blkz hb)
        have n4_ := Aside0.mk (below_step bel hb)
        clear HO1
        clear HO440
        clear BK437
        clear BK457
        clear HB
        have HO1 := n0_
        have HO440 := n1_
        have BK437 := n2_
        have BK457 := n3_
        have HB := n4_
        clear n0_ n1_ n2_ n3_ n4_
        (try clear hb)
        (try clear hb2)
        (try clear hk)
        (try clear hi)
        refine hK.out _ _ ⟨(blk_cell BK437.out 0).trans rfl, (blk_cell BK437.out 1).trans rfl, ((HB.out.cell (World.block_lt_of_cell? w _ hw449_0)).trans hw449_0), ((HB.out.cell (World.block_lt_of_cell? w _ hw449_1)).trans hw449_1)⟩ (fun hHeld => ?_)
        clear hK K
        refine norm_ (a' := ?_) ?_ ?_
        rotate_left
        ·
         show Act.put _ (some 35) _ = _
         simp only [Act.put, List.setIfInBounds_toArray, List.set_cons_zero, List.set_cons_succ, i64_w, i32_w]
         rfl
        refine pst (i := 8) (N := some 27) (bz 14 2559) (any_of HT_.out (by kernel_rfl)) ?_
        refine pst (i := 9) (N := some 36) (bz 14 3071) (any_of HT_.out (by kernel_rfl)) ?_
        refine pst (i := 10) (N := some 37) (bz 14 4095) (any_of HT_.out (by kernel_rfl)) ?_
        exact norm_ (by simp only [putAll, Act.put, List.setIfInBounds_toArray, List.set_cons_zero, List.set_cons_succ]) (hCont (gb457) _ ⟨hHeld, (by (with_reducible repeat (first | apply Kd.V_alloc | apply Kd.V_drewN | apply Kd.V_drew)); exact Kd.V_mono HO1.out (fun _ hk => by first | exact ⟨hk.1.1.1, ⟨hk.1.2, ⟨hk.1.1.2, hk.2⟩⟩⟩ | (obtain ⟨⟨h1_, h2_, h3_⟩, h4_⟩ := hk; first | exact ⟨h1_, h2_, h3_, h4_⟩ | exact ⟨h1_, h3_, h2_, h4_⟩ | exact ⟨h1_, h4_, h2_, h3_⟩ | exact ⟨h1_, h4_, h3_, h2_⟩ | exact ⟨h1_, h2_, h4_, h3_⟩ | exact ⟨h1_, h3_, h4_, h2_⟩))), (by (with_reducible repeat (first | apply Kd.N_alloc | apply Kd.N_drewN | apply Kd.N_drew)); exact Kd.N_mono HO440.out (fun _ hk => ⟨hk.1.1, ⟨hk.1.2, hk.2⟩⟩)), blkz, blkz, GW457.out, GE457.out, NB437_457.out, NB457_437.out, bel⟩)
      rintro gb457 w47 ⟨hS_, h0_, h1_, h2_, h3_, h4_, h5_, h6_, h7_, h8_⟩
      have n0_ : Aside0 (Kd.V (Kd.int .i64) 3 w47 w.heap.size (fun k_ => (P1_ k_ ∨ w.heap.size ≤ k_) ∧ some k_ ≠ (.slice Ao40 y438.length co40 : Value).ownBlock ∧ k_ ≠ gb437 ∧ k_ ≠ gb457) (.slice A1 l1.length c1) l1) := ⟨h0_⟩
      have n1_ : Aside0 (Kd.N (Kd.slice 3 (Kd.int .i64)) 25 w47 w.heap.size (fun k_ => (P1_ k_ ∨ w.heap.size ≤ k_) ∧ k_ ≠ gb437 ∧ k_ ≠ gb457) (.slice Ao40 y438.length co40) y438) := ⟨h1_⟩
      have n2_ : Aside0 (w47.heap[gb437]? = some (.cells #[.int .i64 a0_0, .slice (some ad449) l0_1.length c0_1] 24 (0, 0))) := ⟨h2_⟩
      have n3_ : Aside0 (w47.heap[gb457]? = some (.cells #[.int .i64 0, .int .i64 0, .int .i64 0, .int .i64 0, .int .i64 0, .int .i64 0] 70 (0, 0))) := ⟨h3_⟩
      have n4_ : Aside0 (w.heap.size ≤ gb457) := ⟨h4_⟩
      have n5_ : Aside0 (w.heap.size ≤ gb457) := ⟨h5_⟩
      have n6_ : Aside0 (gb437 ≠ gb457) := ⟨h6_⟩
      have n7_ : Aside0 (gb457 ≠ gb437) := ⟨h7_⟩
      have n8_ : Aside0 (Below w.heap.size w w47) := ⟨h8_⟩
      clear HO1
      clear HO440
      clear BK437
      clear HB
      clear h0_ h1_ h2_ h3_ h4_ h5_ h6_ h7_ h8_
      have HO1 := n0_
      have HO440 := n1_
      have BK437 := n2_
      have BK457 := n3_
      have GW457 := n4_
      have GE457 := n5_
      have NB437_457 := n6_
      have NB457_437 := n7_
      have HB := n8_
      clear n0_ n1_ n2_ n3_ n4_ n5_ n6_ n7_ n8_
      have hHeld : w47.cell? ⟨gb437, 0, none⟩ = some (.int .i64 a0_0) ∧ w47.cell? ⟨gb437, 1, none⟩ = some (.slice (some ad449) l0_1.length c0_1) ∧ w47.cell? (ad449.add ((a2).toNat * 2)) = some (.slice A449_0 ((rd_T64 l0_1 a2).f0).length c449_0) ∧ w47.cell? ⟨(ad449.add ((a2).toNat * 2)).block, (ad449.add ((a2).toNat * 2)).off + 1, none⟩ = some (.slice A449_1 ((rd_T64 l0_1 a2).f1).length c449_1) := hS_
      refine norm_ (a' := ?_) ?_ ?_
      rotate_left
      ·
       simp only [putAll, Act.put, List.setIfInBounds_toArray, List.set_cons_zero, List.set_cons_succ]
       rfl
      refine one_ (i := 12) (N := none) #[true, true, true, true, true, true, true, true, true, true, true, true, true, false] rfl rfl (one_of HT_.out (by kernel_rfl)) (by decide) (fun K hK => ?_)
      have hs48 : w47.cell? ⟨gb457, 0, none⟩ = some (.int .i64 0) := (blk_cell BK457.out 0).trans rfl
      have hfs48 := blk_frozen BK457.out 0
      have hns48_0 := NB437_457.out
      have hms48_0 := NB457_437.out
      have hs49 : w47.cell? ⟨gb457, 1, none⟩ = some (.int .i64 0) := (blk_cell BK457.out 1).trans rfl
      have hfs49 := blk_frozen BK457.out 1
      have hns49_0 := NB437_457.out
      have hms49_0 := NB457_437.out
      have hs50 : w47.cell? ⟨gb457, 2, none⟩ = some (.int .i64 0) := (blk_cell BK457.out 2).trans rfl
      have hfs50 := blk_frozen BK457.out 2
      have hns50_0 := NB437_457.out
      have hms50_0 := NB457_437.out
      have hs51 : w47.cell? ⟨gb457, 3, none⟩ = some (.int .i64 0) := (blk_cell BK457.out 3).trans rfl
      have hfs51 := blk_frozen BK457.out 3
      have hns51_0 := NB437_457.out
      have hms51_0 := NB457_437.out
      have hs52 : w47.cell? ⟨gb457, 4, none⟩ = some (.int .i64 0) := (blk_cell BK457.out 4).trans rfl
      have hfs52 := blk_frozen BK457.out 4
      have hns52_0 := NB437_457.out
      have hms52_0 := NB457_437.out
      have hs53 : w47.cell? ⟨gb457, 5, none⟩ = some (.int .i64 0) := (blk_cell BK457.out 5).trans rfl
      have hfs53 := blk_frozen BK457.out 5
      have hns53_0 := NB437_457.out
      have hms53_0 := NB457_437.out
      refine skip_ (w1 := ?_) (by rfl) rfl ?_ ?_
      rotate_left
      ·
       go_simp
       rfl
      refine hK.out _ _ ⟨((cell_far (p := ⟨gb457, _, none⟩) NB437_457.out _).trans (((cell_far (p := ⟨gb457, _, none⟩) NB437_457.out _).trans (((cell_far (p := ⟨gb457, _, none⟩) NB437_457.out _).trans (((cell_far (p := ⟨gb457, _, none⟩) NB437_457.out _).trans (((cell_far (p := ⟨gb457, _, none⟩) NB437_457.out _).trans (((cell_far (p := ⟨gb457, _, none⟩) NB437_457.out _).trans (hHeld.1)))))))))))), ((cell_far (p := ⟨gb457, _, none⟩) NB437_457.out _).trans (((cell_far (p := ⟨gb457, _, none⟩) NB437_457.out _).trans (((cell_far (p := ⟨gb457, _, none⟩) NB437_457.out _).trans (((cell_far (p := ⟨gb457, _, none⟩) NB437_457.out _).trans (((cell_far (p := ⟨gb457, _, none⟩) NB437_457.out _).trans (((cell_far (p := ⟨gb457, _, none⟩) NB437_457.out _).trans (hHeld.2.1)))))))))))), ((cell_far (p := ⟨gb457, _, none⟩) (by first | exact Nat.ne_of_lt (Nat.lt_of_lt_of_le (by have := World.block_lt_of_cell? _ _ hw449_0; first | rwa [add_block] at this | exact this) GW457.out) | (rw [add_block]; exact Nat.ne_of_lt (Nat.lt_of_lt_of_le (by have := World.block_lt_of_cell? _ _ hw449_0; first | rwa [add_block] at this | exact this) GW457.out)) | (show (Addr.add _ _).block ≠ _; rw [add_block]; exact Nat.ne_of_lt (Nat.lt_of_lt_of_le (by have := World.block_lt_of_cell? _ _ hw449_0; first | rwa [add_block] at this | exact this) GW457.out)) | (dsimp only; exact Nat.ne_of_lt (Nat.lt_of_lt_of_le (by have := World.block_lt_of_cell? _ _ hw449_0; first | rwa [add_block] at this | exact this) GW457.out))) _).trans (((cell_far (p := ⟨gb457, _, none⟩) (by first | exact Nat.ne_of_lt (Nat.lt_of_lt_of_le (by have := World.block_lt_of_cell? _ _ hw449_0; first | rwa [add_block] at this | exact this) GW457.out) | (rw [add_block]; exact Nat.ne_of_lt (Nat.lt_of_lt_of_le (by have := World.block_lt_of_cell? _ _ hw449_0; first | rwa [add_block] at this | exact this) GW457.out)) | (show (Addr.add _ _).block ≠ _; rw [add_block]; exact Nat.ne_of_lt (Nat.lt_of_lt_of_le (by have := World.block_lt_of_cell? _ _ hw449_0; first | rwa [add_block] at this | exact this) GW457.out)) | (dsimp only; exact Nat.ne_of_lt (Nat.lt_of_lt_of_le (by have := World.block_lt_of_cell? _ _ hw449_0; first | rwa [add_block] at this | exact this) GW457.out))) _).trans (((cell_far (p := ⟨gb457, _, none⟩) (by first | exact Nat.ne_of_lt (Nat.lt_of_lt_of_le (by have := World.block_lt_of_cell? _ _ hw449_0; first | rwa [add_block] at this | exact this) GW457.out) | (rw [add_block]; exact Nat.ne_of_lt (Nat.lt_of_lt_of_le (by have := World.block_lt_of_cell? _ _ hw449_0; first | rwa [add_block] at this | exact this) GW457.out)) | (show (Addr.add _ _).block ≠ _; rw [add_block]; exact Nat.ne_of_lt (Nat.lt_of_lt_of_le (by have := World.block_lt_of_cell? _ _ hw449_0; first | rwa [add_block] at this | exact this) GW457.out)) | (dsimp only; exact Nat.ne_of_lt (Nat.lt_of_lt_of_le (by have := World.block_lt_of_cell? _ _ hw449_0; first | rwa [add_block] at this | exact this) GW457.out))) _).trans (((cell_far (p := ⟨gb457, _, none⟩) (by first | exact Nat.ne_of_lt (Nat.lt_of_lt_of_le (by have := World.block_lt_of_cell? _ _ hw449_0; first | rwa [add_block] at this | exact this) GW457.out) | (rw [add_block]; exact Nat.ne_of_lt (Nat.lt_of_lt_of_le (by have := World.block_lt_of_cell? _ _ hw449_0; first | rwa [add_block] at this | exact this) GW457.out)) | (show (Addr.add _ _).block ≠ _; rw [add_block]; exact Nat.ne_of_lt (Nat.lt_of_lt_of_le (by have := World.block_lt_of_cell? _ _ hw449_0; first | rwa [add_block] at this | exact this) GW457.out)) | (dsimp only; exact Nat.ne_of_lt (Nat.lt_of_lt_of_le (by have := World.block_lt_of_cell? _ _ hw449_0; first | rwa [add_block] at this | exact this) GW457.out))) _).trans (((cell_far (p := ⟨gb457, _, none⟩) (by first | exact Nat.ne_of_lt (Nat.lt_of_lt_of_le (by have := World.block_lt_of_cell? _ _ hw449_0; first | rwa [add_block] at this | exact this) GW457.out) | (rw [add_block]; exact Nat.ne_of_lt (Nat.lt_of_lt_of_le (by have := World.block_lt_of_cell? _ _ hw449_0; first | rwa [add_block] at this | exact this) GW457.out)) | (show (Addr.add _ _).block ≠ _; rw [add_block]; exact Nat.ne_of_lt (Nat.lt_of_lt_of_le (by have := World.block_lt_of_cell? _ _ hw449_0; first | rwa [add_block] at this | exact this) GW457.out)) | (dsimp only; exact Nat.ne_of_lt (Nat.lt_of_lt_of_le (by have := World.block_lt_of_cell? _ _ hw449_0; first | rwa [add_block] at this | exact this) GW457.out))) _).trans (((cell_far (p := ⟨gb457, _, none⟩) (by first | exact Nat.ne_of_lt (Nat.lt_of_lt_of_le (by have := World.block_lt_of_cell? _ _ hw449_0; first | rwa [add_block] at this | exact this) GW457.out) | (rw [add_block]; exact Nat.ne_of_lt (Nat.lt_of_lt_of_le (by have := World.block_lt_of_cell? _ _ hw449_0; first | rwa [add_block] at this | exact this) GW457.out)) | (show (Addr.add _ _).block ≠ _; rw [add_block]; exact Nat.ne_of_lt (Nat.lt_of_lt_of_le (by have := World.block_lt_of_cell? _ _ hw449_0; first | rwa [add_block] at this | exact this) GW457.out)) | (dsimp only; exact Nat.ne_of_lt (Nat.lt_of_lt_of_le (by have := World.block_lt_of_cell? _ _ hw449_0; first | rwa [add_block] at this | exact this) GW457.out))) _).trans (hHeld.2.2.1)))))))))))), ((cell_far (p := ⟨gb457, _, none⟩) (by first | exact Nat.ne_of_lt (Nat.lt_of_lt_of_le (by have := World.block_lt_of_cell? _ _ hw449_1; first | rwa [add_block] at this | exact this) GW457.out) | (rw [add_block]; exact Nat.ne_of_lt (Nat.lt_of_lt_of_le (by have := World.block_lt_of_cell? _ _ hw449_1; first | rwa [add_block] at this | exact this) GW457.out)) | (show (Addr.add _ _).block ≠ _; rw [add_block]; exact Nat.ne_of_lt (Nat.lt_of_lt_of_le (by have := World.block_lt_of_cell? _ _ hw449_1; first | rwa [add_block] at this | exact this) GW457.out)) | (dsimp only; exact Nat.ne_of_lt (Nat.lt_of_lt_of_le (by have := World.block_lt_of_cell? _ _ hw449_1; first | rwa [add_block] at this | exact this) GW457.out))) _).trans (((cell_far (p := ⟨gb457, _, none⟩) (by first | exact Nat.ne_of_lt (Nat.lt_of_lt_of_le (by have := World.block_lt_of_cell? _ _ hw449_1; first | rwa [add_block] at this | exact this) GW457.out) | (rw [add_block]; exact Nat.ne_of_lt (Nat.lt_of_lt_of_le (by have := World.block_lt_of_cell? _ _ hw449_1; first | rwa [add_block] at this | exact this) GW457.out)) | (show (Addr.add _ _).block ≠ _; rw [add_block]; exact Nat.ne_of_lt (Nat.lt_of_lt_of_le (by have := World.block_lt_of_cell? _ _ hw449_1; first | rwa [add_block] at this | exact this) GW457.out)) | (dsimp only; exact Nat.ne_of_lt (Nat.lt_of_lt_of_le (by have := World.block_lt_of_cell? _ _ hw449_1; first | rwa [add_block] at this | exact this) GW457.out))) _).trans (((cell_far (p := ⟨gb457, _, none⟩) (by first | exact Nat.ne_of_lt (Nat.lt_of_lt_of_le (by have := World.block_lt_of_cell? _ _ hw449_1; first | rwa [add_block] at this | exact this) GW457.out) | (rw [add_block]; exact Nat.ne_of_lt (Nat.lt_of_lt_of_le (by have := World.block_lt_of_cell? _ _ hw449_1; first | rwa [add_block] at this | exact this) GW457.out)) | (show (Addr.add _ _).block ≠ _; rw [add_block]; exact Nat.ne_of_lt (Nat.lt_of_lt_of_le (by have := World.block_lt_of_cell? _ _ hw449_1; first | rwa [add_block] at this | exact this) GW457.out)) | (dsimp only; exact Nat.ne_of_lt (Nat.lt_of_lt_of_le (by have := World.block_lt_of_cell? _ _ hw449_1; first | rwa [add_block] at this | exact this) GW457.out))) _).trans (((cell_far (p := ⟨gb457, _, none⟩) (by first | exact Nat.ne_of_lt (Nat.lt_of_lt_of_le (by have := World.block_lt_of_cell? _ _ hw449_1; first | rwa [add_block] at this | exact this) GW457.out) | (rw [add_block]; exact Nat.ne_of_lt (Nat.lt_of_lt_of_le (by have := World.block_lt_of_cell? _ _ hw449_1; first | rwa [add_block] at this | exact this) GW457.out)) | (show (Addr.add _ _).block ≠ _; rw [add_block]; exact Nat.ne_of_lt (Nat.lt_of_lt_of_le (by have := World.block_lt_of_cell? _ _ hw449_1; first | rwa [add_block] at this | exact this) GW457.out)) | (dsimp only; exact Nat.ne_of_lt (Nat.lt_of_lt_of_le (by have := World.block_lt_of_cell? _ _ hw449_1; first | rwa [add_block] at this | exact this) GW457.out))) _).trans (((cell_far (p := ⟨gb457, _, none⟩) (by first | exact Nat.ne_of_lt (Nat.lt_of_lt_of_le (by have := World.block_lt_of_cell? _ _ hw449_1; first | rwa [add_block] at this | exact this) GW457.out) | (rw [add_block]; exact Nat.ne_of_lt (Nat.lt_of_lt_of_le (by have := World.block_lt_of_cell? _ _ hw449_1; first | rwa [add_block] at this | exact this) GW457.out)) | (show (Addr.add _ _).block ≠ _; rw [add_block]; exact Nat.ne_of_lt (Nat.lt_of_lt_of_le (by have := World.block_lt_of_cell? _ _ hw449_1; first | rwa [add_block] at this | exact this) GW457.out)) | (dsimp only; exact Nat.ne_of_lt (Nat.lt_of_lt_of_le (by have := World.block_lt_of_cell? _ _ hw449_1; first | rwa [add_block] at this | exact this) GW457.out))) _).trans (((cell_far (p := ⟨gb457, _, none⟩) (by first | exact Nat.ne_of_lt (Nat.lt_of_lt_of_le (by have := World.block_lt_of_cell? _ _ hw449_1; first | rwa [add_block] at this | exact this) GW457.out) | (rw [add_block]; exact Nat.ne_of_lt (Nat.lt_of_lt_of_le (by have := World.block_lt_of_cell? _ _ hw449_1; first | rwa [add_block] at this | exact this) GW457.out)) | (show (Addr.add _ _).block ≠ _; rw [add_block]; exact Nat.ne_of_lt (Nat.lt_of_lt_of_le (by have := World.block_lt_of_cell? _ _ hw449_1; first | rwa [add_block] at this | exact this) GW457.out)) | (dsimp only; exact Nat.ne_of_lt (Nat.lt_of_lt_of_le (by have := World.block_lt_of_cell? _ _ hw449_1; first | rwa [add_block] at this | exact this) GW457.out))) _).trans (hHeld.2.2.2))))))))))))⟩ (fun hHeld => ?_)
      clear hK K
      refine pst (i := 13) (N := some 10) (bz 14 16383) (any_of HT_.out (by kernel_rfl)) ?_
      refine done_ (done_of HT_.out (by kernel_rfl)) ?_
      try go_wp2
      go_ret2
      exact ⟨_, ezz, by first | exact Kd.R_nil _ _ _ _ _ | exact Kd.N_nil _ _ _ _ _ | exact Kd.V_nil _ _ _ _ _ | exact Kd.Q_nil _ _ _ _ _ | exact Kd.S_nil _ _ _ _ _, bel⟩
    ·
     rw [if_neg c10] at H
     exact absurd H (by simp)
   ·
    rw [if_neg c9] at H
    exact absurd H (by simp)
  ·
   replace c7 := Bool.eq_false_iff.mpr c7
   subst c7
   rw [if_neg (show ¬ (false = true) by decide)] at H
   simp only [Option.some.injEq, Prod.mk.injEq] at H
   obtain ⟨rfl, rfl⟩ := H
   go_enter Try.func41, Try.ntmps41
   go_wp2_with (first | ((with_reducible refine gate_dst (N := 3) rfl ?_); refine box_event ?hg (N := 3) ?hd (cs := #[.int .i64 a0_0, .slice A0_1 l0_1.length c0_1]) (t := 24) ?hr ?_; (case hd => rfl); (case hg => rfl); (case hr => first | (go_simp; done) | (go_simp; rfl)); intro gb437 hg w54 hbox hb; have BK437 := Aside0.mk (hbox); have GW437 := bsz (w := w) hg; have GE437 := GW437; replace HO1 := Aside0.mk (Kd.V_below (Kd.V_elderB (by (with_reducible repeat (first | apply Kd.V_alloc | apply Kd.V_drewN | apply Kd.V_drew)); exact HO1.out) gb437 (Nat.le_of_eq hg.symm)) hb); replace HB := Aside0.mk (below_step bel hb); clear hb hbox hg; obtain ⟨hcz55_0, hcz55_1⟩ := bc2 BK437.out) | ((with_reducible refine gate_dst (N := 13) rfl ?_); refine Kd.N_lit (Kd.slice 3 (Kd.int .i64)) _ 25 ?hg (N' := 13) ?hd (xs := ([l1] : List (List Int))) (inner := [.slice A1 l1.length c1]) (ok := (fun k_ => (P1_ k_ ∨ w.heap.size ≤ k_) ∧ k_ ≠ gb437)) (okp := (fun k_ => (P1_ k_ ∨ w.heap.size ≤ k_) ∧ k_ ≠ gb437)) ?hr ?hp (fun _ hk => hk) ((show ∀ k_, w54.heap.size ≤ k_ → (fun k_ => (P1_ k_ ∨ w.heap.size ≤ k_) ∧ k_ ≠ gb437) k_ from fun k_ hk => ⟨(.inr (Nat.le_trans (below_size bel) hk)), Kd.freshB (g := gb437) (o := .cells #[.int .i64 a0_0, .slice A0_1 l0_1.length c0_1] 24 (0, 0)) blkz k_ hk⟩) _ (Nat.le_refl _)) (Below.refl _ _) (Nat.le_refl _) (by simp) ?_; (case hd => rfl); (case hg => rfl); (case hr => first | (go_simp; done) | (go_simp; rfl)); (case hp => exact (Reps.one (show Kd.FK (Kd.slice 3 (Kd.int .i64)) _ _ l1 [.slice A1 l1.length c1] from (Kd.FK_slice_mk (Kd.V_reads' (Kd.V_mono (ok' := (fun k_ => (P1_ k_ ∨ w.heap.size ≤ k_) ∧ k_ ≠ gb437)) (HO1.out) (fun k_ hk => ⟨hk.1, hk.2⟩))).2.1 (Kd.V_F (Kd.V_mono (ok' := (fun k_ => (P1_ k_ ∨ w.heap.size ≤ k_) ∧ k_ ≠ gb437)) (HO1.out) (fun k_ hk => ⟨hk.1, hk.2⟩))))) (Reps.none _ _))); intro v439 w56 ho57 hb hg_ hnew_; clear hg_ hnew_; (first | rw [← Ny438.out] at ho57 | (simp only [Int.reduceToNat] at ho57; rw [← Ny438.out] at ho57)); have HO440 := Aside0.mk (Kd.N_lower ho57 (below_size bel)); replace HO1 := Aside0.mk (Kd.V_elder' (by (with_reducible repeat (first | apply Kd.V_alloc | apply Kd.V_drewN | apply Kd.V_drew)); exact HO1.out) (Kd.N_base ho57) hb); replace BK437 := Aside0.mk (blk_below (g := gb437) blkz hb); replace HB := Aside0.mk (below_step bel hb); clear hb ho57; obtain ⟨Ao58, co58, eo58⟩ := Kd.N_slice HO440.out; subst eo58) | ((with_reducible refine gate_callee (f := 68) rfl ?_); refine goesL_ (some 14) rfl rfl Try.func68 (by kernel_rfl) rfl #[.agg #[.int .i64 a0_0, .slice A0_1 l0_1.length c0_1], .slice Ao58 y438.length co58] rfl mapz ?_; (with_reducible refine (key_open.calls a0_0 _ _ l0_1 _ _ y438 t441 _ (cbz HR0_1) HC0_1.out ?side3 ?side4 A4.out).mono ?_); (case side3 => repeat (first | exact (Kd.N_reads' HO440.out).2.2 | (with_reducible refine Kd.C_alloc ?_ _) | (with_reducible refine Kd.C_drewN ?_ _) | (with_reducible refine Kd.C_drew ?_))); (case side4 => exact (Kd.N_reads' HO440.out).2.1); rintro e w59 ⟨rfl, hb⟩; refine ⟨_, rfl, ?_⟩; replace HO1 := Aside0.mk (Kd.V_below (by (with_reducible repeat (first | apply Kd.V_alloc | apply Kd.V_drewN | apply Kd.V_drew)); exact HO1.out) hb); replace HO440 := Aside0.mk (Kd.N_below (by (with_reducible repeat (first | apply Kd.N_alloc | apply Kd.N_drewN | apply Kd.N_drew)); exact HO440.out) hb); replace BK437 := Aside0.mk (blk_below (g := gb437) blkz hb); replace HB := Aside0.mk (below_step bel hb); clear hb; obtain ⟨hcz60_0, hcz60_1⟩ := bc2 BK437.out) | ((with_reducible refine gate_callee (f := 78) rfl ?_); refine goesL_ (some 25) rfl rfl Try.func78 (by kernel_rfl) rfl #[.int .i64 0, .int .i64 a2, .int .i64 (wrap64 ((l0_1.length : Int) - 1))] rfl mapz ?_; (with_reducible refine (key_within.calls 0 a2 (wrap64 ((l0_1.length : Int) - 1)) false _ A6.out).mono ?_); rintro e w' ⟨rfl, ⟨nd, rfl⟩⟩; refine ⟨_, rfl, ?_⟩))
   go_ret2
   exact ⟨_, ezz, by first | exact Kd.R_nil _ _ _ _ _ | exact Kd.N_nil _ _ _ _ _ | exact Kd.V_nil _ _ _ _ _ | exact Kd.Q_nil _ _ _ _ _ | exact Kd.S_nil _ _ _ _ _, bel⟩
 ·
  rw [if_neg c5] at H
  have c5b0 : (t441 == 0) = false := beq_eq_false_iff_ne.mpr c5
  have c5b1 : (t441 != 0) = true := bne_iff_ne.mpr c5
  simp only [Option.some.injEq, Prod.mk.injEq] at H
  obtain ⟨rfl, rfl⟩ := H
  go_enter Try.func41, Try.ntmps41
  go_wp2_with (first | ((with_reducible refine gate_dst (N := 3) rfl ?_); refine box_event ?hg (N := 3) ?hd (cs := #[.int .i64 a0_0, .slice A0_1 l0_1.length c0_1]) (t := 24) ?hr ?_; (case hd => rfl); (case hg => rfl); (case hr => first | (go_simp; done) | (go_simp; rfl)); intro gb437 hg w61 hbox hb; have BK437 := Aside0.mk (hbox); have GW437 := bsz (w := w) hg; have GE437 := GW437; replace HO1 := Aside0.mk (Kd.V_below (Kd.V_elderB (by (with_reducible repeat (first | apply Kd.V_alloc | apply Kd.V_drewN | apply Kd.V_drew)); exact HO1.out) gb437 (Nat.le_of_eq hg.symm)) hb); replace HB := Aside0.mk (below_step bel hb); clear hb hbox hg; obtain ⟨hcz62_0, hcz62_1⟩ := bc2 BK437.out) | ((with_reducible refine gate_dst (N := 13) rfl ?_); refine Kd.N_lit (Kd.slice 3 (Kd.int .i64)) _ 25 ?hg (N' := 13) ?hd (xs := ([l1] : List (List Int))) (inner := [.slice A1 l1.length c1]) (ok := (fun k_ => (P1_ k_ ∨ w.heap.size ≤ k_) ∧ k_ ≠ gb437)) (okp := (fun k_ => (P1_ k_ ∨ w.heap.size ≤ k_) ∧ k_ ≠ gb437)) ?hr ?hp (fun _ hk => hk) ((show ∀ k_, w61.heap.size ≤ k_ → (fun k_ => (P1_ k_ ∨ w.heap.size ≤ k_) ∧ k_ ≠ gb437) k_ from fun k_ hk => ⟨(.inr (Nat.le_trans (below_size bel) hk)), Kd.freshB (g := gb437) (o := .cells #[.int .i64 a0_0, .slice A0_1 l0_1.length c0_1] 24 (0, 0)) blkz k_ hk⟩) _ (Nat.le_refl _)) (Below.refl _ _) (Nat.le_refl _) (by simp) ?_; (case hd => rfl); (case hg => rfl); (case hr => first | (go_simp; done) | (go_simp; rfl)); (case hp => exact (Reps.one (show Kd.FK (Kd.slice 3 (Kd.int .i64)) _ _ l1 [.slice A1 l1.length c1] from (Kd.FK_slice_mk (Kd.V_reads' (Kd.V_mono (ok' := (fun k_ => (P1_ k_ ∨ w.heap.size ≤ k_) ∧ k_ ≠ gb437)) (HO1.out) (fun k_ hk => ⟨hk.1, hk.2⟩))).2.1 (Kd.V_F (Kd.V_mono (ok' := (fun k_ => (P1_ k_ ∨ w.heap.size ≤ k_) ∧ k_ ≠ gb437)) (HO1.out) (fun k_ hk => ⟨hk.1, hk.2⟩))))) (Reps.none _ _))); intro v439 w63 ho64 hb hg_ hnew_; clear hg_ hnew_; (first | rw [← Ny438.out] at ho64 | (simp only [Int.reduceToNat] at ho64; rw [← Ny438.out] at ho64)); have HO440 := Aside0.mk (Kd.N_lower ho64 (below_size bel)); replace HO1 := Aside0.mk (Kd.V_elder' (by (with_reducible repeat (first | apply Kd.V_alloc | apply Kd.V_drewN | apply Kd.V_drew)); exact HO1.out) (Kd.N_base ho64) hb); replace BK437 := Aside0.mk (blk_below (g := gb437) blkz hb); replace HB := Aside0.mk (below_step bel hb); clear hb ho64; obtain ⟨Ao65, co65, eo65⟩ := Kd.N_slice HO440.out; subst eo65) | ((with_reducible refine gate_callee (f := 68) rfl ?_); refine goesL_ (some 14) rfl rfl Try.func68 (by kernel_rfl) rfl #[.agg #[.int .i64 a0_0, .slice A0_1 l0_1.length c0_1], .slice Ao65 y438.length co65] rfl mapz ?_; (with_reducible refine (key_open.calls a0_0 _ _ l0_1 _ _ y438 t441 _ (cbz HR0_1) HC0_1.out ?side3 ?side4 A4.out).mono ?_); (case side3 => repeat (first | exact (Kd.N_reads' HO440.out).2.2 | (with_reducible refine Kd.C_alloc ?_ _) | (with_reducible refine Kd.C_drewN ?_ _) | (with_reducible refine Kd.C_drew ?_))); (case side4 => exact (Kd.N_reads' HO440.out).2.1); rintro e w66 ⟨rfl, hb⟩; refine ⟨_, rfl, ?_⟩; replace HO1 := Aside0.mk (Kd.V_below (by (with_reducible repeat (first | apply Kd.V_alloc | apply Kd.V_drewN | apply Kd.V_drew)); exact HO1.out) hb); replace HO440 := Aside0.mk (Kd.N_below (by (with_reducible repeat (first | apply Kd.N_alloc | apply Kd.N_drewN | apply Kd.N_drew)); exact HO440.out) hb); replace BK437 := Aside0.mk (blk_below (g := gb437) blkz hb); replace HB := Aside0.mk (below_step bel hb); clear hb))
  go_ret2
  exact ⟨_, ezz, by first | exact Kd.R_nil _ _ _ _ _ | exact Kd.N_nil _ _ _ _ _ | exact Kd.V_nil _ _ _ _ _ | exact Kd.Q_nil _ _ _ _ _ | exact Kd.S_nil _ _ _ _ _, bel⟩

/-! ### dropperref06_play: function 81 -/
mutual
def dropperref06_play.j0 : Nat → List Int → List Int → Bool → Int → List (S64) → Option (List Int × Bool × Bool)
 | 0, _, _, _, _, _ => none
 | k + 1, x1, x2, x25, x462000, x462001 => if x25 = true then (some (([] : List Int), false, false)) else ((some (([] : List Int) : List Int)).bind fun y463 => (if y463.length + x1.length < 17592186044416 then (dropperref06_play.l0 k x2 (y463 ++ x1) 0 x462000 x462001) else (none)))
def dropperref06_play.l0 : Nat → List Int → List Int → Int → Int → List (S64) → Option (List Int × Bool × Bool)
 | 0, _, _, _, _, _ => none
 | k + 1, x2, x6, x9, x462000, x462001 => if x9 < (x2.length : Int) then (if 0 ≤ x9 then (if 0 ≤ (rd x2 x9) then (if (rd x2 x9) < (x462001.length : Int) then ((dropperref06_after.f k ((rd_T64 x462001 (rd x2 x9)).f0) ((rd_T64 x462001 (rd x2 x9)).f1) x6).bind fun bt471 => (if bt471.2 = true then (dropperref06_play.l0 k x2 bt471.1 (wrap64 (x9 + 1)) x462000 x462001) else (some (([] : List Int), true, false)))) else (none)) else (none)) else (none)) else (some (x6, true, true))
end
def dropperref06_play.f (k : Nat) (a0_0 : Int) (l0_1 : List (S64)) (l1 : List Int) (l2 : List Int) : Option (List Int × Bool × Bool) := if (l2.length : Int) > 1000 then (dropperref06_play.j0 k l1 l2 true a0_0 l0_1) else ((dropperref06_list.f k l2 (l2.length : Int) 0 (wrap64 ((l0_1.length : Int) - 1))).bind fun t462 => (dropperref06_play.j0 k l1 l2 (!t462) a0_0 l0_1))
def dropperref06_play.T7 : Bool × List (List Nat × List Nat) := (true, [([], []), ([0], [0]), ([], []), ([], []), ([2, 3], [2, 3]), ([4], [4]), ([1, 5], [1, 5]), ([6], [6]), ([], []), ([7, 8], [7, 8]), ([9], [9]), ([10], [10]), ([10], [10]), ([11, 9, 0, 1, 2, 3, 4, 5, 6, 7, 8, 9, 10, 11], [11]), ([12, 13, 0, 1, 2, 3, 4, 5, 6, 7, 8, 9, 10, 11, 12, 13], [12])])
def dropperref06_play.B7 : List Nat := [0, 1, 0, 0, 12, 28, 63, 127, 0, 511, 1023, 2047, 2047, 4095, 16383]
theorem dropperref06_play.tab7 : rtab .any (opsOf Try.f81 7) = dropperref06_play.T7 := by kernel_rfl
theorem dropperref06_play.bits7 : waitsOk dropperref06_play.T7.2 dropperref06_play.B7 = true := by kernel_rfl
set_option maxHeartbeats 8000000 in
set_option maxRecDepth 100000 in
theorem dropperref06_play.calls (k : Nat) (a0_0 : Int) (A0_1 : Option Addr) (c0_1 : Nat) (l0_1 : List (S64)) (A1 : Option Addr) (c1 : Nat) (l1 : List Int) (A2 : Option Addr) (c2 : Nat) (l2 : List Int) (r1 : List Int) (r2 : Bool) (r3 : Bool) (w : World) (hr0_1 : Kd.C k64 w A0_1 l0_1.length l0_1) (hc0_1 : l0_1.length ≤ c0_1) (hr1 : Kd.C (Kd.int .i64) w A1 l1.length l1) (hc1 : l1.length ≤ c1) (hr2 : Kd.C (Kd.int .i64) w A2 l2.length l2) (hc2 : l2.length ≤ c2) (h : dropperref06_play.f k a0_0 l0_1 l1 l2 = some (r1, r2, r3)) :
  Calls Try.prog 81 #[.agg #[.int .i64 a0_0, .slice A0_1 l0_1.length c0_1], .slice A1 l1.length c1, .slice A2 l2.length c2] w fun e w' => ∃ v0_ : Value, e = .returned (.tuple #[v0_, .bool r2, .bool r3]) ∧ Kd.R (Kd.int .i64) 3 w' w.heap.size (fun _ => True) v0_ r1 ∧ Below w.heap.size w w' := by
 have hu24 := Try.underlying24
 have hu64 := Try.underlying64
 have HR0_1 := Aside0.mk hr0_1
 have HC0_1 := Aside0.mk hc0_1
 clear hr0_1 hc0_1
 have HR1 := Aside0.mk hr1
 have HC1 := Aside0.mk hc1
 clear hr1 hc1
 have HR2 := Aside0.mk hr2
 have HC2 := Aside0.mk hc2
 clear hr2 hc2
 have HB := Aside0.mk (Below.refl w.heap.size w)
 have H : (if (l2.length : Int) > 1000 then (dropperref06_play.j0 k l1 l2 true a0_0 l0_1) else ((dropperref06_list.f k l2 (l2.length : Int) 0 (wrap64 ((l0_1.length : Int) - 1))).bind fun t462 => (dropperref06_play.j0 k l1 l2 (!t462) a0_0 l0_1))) = some (r1, r2, r3) := h
 clear h
 have HC4 := Aside0.mk H
 clear H
 go_enter Try.func81, Try.ntmps81
 go_upto_region 1 with (first | ((with_reducible refine gate_dst (N := 3) rfl ?_); (try (refine gate_guard (by rfl) ?_; dsimp only)); refine box_event ?hg (N := 3) ?hd (cs := #[.int .i64 a0_0, .slice A0_1 l0_1.length c0_1]) (t := 24) ?hr ?_; (case hd => rfl); (case hg => rfl); (case hr => first | (go_simp; done) | (go_simp; rfl)); intro gb461 hg w5 hbox hb; have BK461 := Aside0.mk (hbox); have GW461 := bsz (w := w) hg; have GE461 := GW461; replace HB := Aside0.mk (below_step bel hb); clear hb hbox hg))
 (try simp only [Act.put, List.setIfInBounds_toArray, List.set_cons_zero, List.set_cons_succ])
 go_cut [25] (fun v25 wc => ∃ (kq : Nat) (x25_3 : Bool), v25 = .bool x25_3 ∧ Aside0 (dropperref06_play.j0 kq l1 l2 x25_3 a0_0 l0_1 = some (r1, r2, r3)) ∧ Aside0 (kq ≤ k) ∧ Aside0 (wc.heap[gb461]? = some (.cells #[.int .i64 a0_0, (.slice A0_1 l0_1.length c0_1)] 24 (0, 0))) ∧ Aside0 (Below w.heap.size w wc))
 case first =>
  have H := HC4.out
  clear HC4
  by_cases c6 : (l2.length : Int) > 1000
  ·
   rw [if_pos c6] at H
   have c6b0 : decide (1000 < (l2.length : Int)) = true := decide_eq_true c6
   have c6b1 : decide (1000 < l2.length) = true := decide_eq_true (by omega)
   clear c6
   (first | rw [c6b0] | (simp only [i64_w, i32_w]; rw [c6b0]) | skip)
   have H' := Aside0.mk H
   clear H
   go_wp2
   go_meet
   case rel => exact ⟨_, (true), rsz, H', ⟨by first | omega | exact Nat.le_refl _⟩, ⟨blkz⟩, ⟨bel⟩⟩
  ·
   rw [if_neg c6] at H
   have c6b0 : decide (1000 < (l2.length : Int)) = false := decide_eq_false c6
   have c6b1 : decide (1000 < l2.length) = false := decide_eq_false (by omega)
   clear c6
   (first | rw [c6b0] | (simp only [i64_w, i32_w]; rw [c6b0]) | skip)
   replace H := Option.bind_eq_some_iff.mp H
   obtain ⟨t462, A70, H⟩ := H
   try dsimp only at H
   have A7 := Aside0.mk A70
   clear A70
   have H' := Aside0.mk H
   clear H
   obtain ⟨hcz8_0, hcz8_1⟩ := bc2 BK461.out
   obtain ⟨hfz8_0, hfz8_1⟩ := bf2 BK461.out
   go_wp2_with (first | (go_at_call 52; (with_reducible refine (dropperref06_list.calls k _ _ l2 (l2.length : Int) 0 (wrap64 ((l0_1.length : Int) - 1)) t462 _ (cbz HR2) HC2.out A7.out).mono ?_); rintro e w' ⟨rfl, ⟨nd, rfl⟩⟩))
   go_meet
   case rel => exact ⟨_, (!t462), rsz, H', ⟨by first | omega | exact Nat.le_refl _⟩, ⟨blkz⟩, ⟨bel⟩⟩
 case rest =>
  clear HC4
  (try clear c1); (try clear c2); (try clear p2); (try clear c6); (try clear c6b0); (try clear c6b1); (try clear p6); (try clear c8); (try clear hcz8_0); (try clear hcz8_1); (try clear hfz8_0); (try clear hfz8_1)
  obtain ⟨kq, x25_3, rfl, HA, HJ3, BK461, HB⟩ := hcut
  cases kq with
  | zero => exact absurd HA.out (by simp [dropperref06_play.j0])
  | succ kj3 =>
   have H := HA.out
   clear HA
   simp only [dropperref06_play.j0] at H
   by_cases c9 : x25_3 = true
   ·
    subst c9
    rw [if_pos rfl] at H
    simp only [Option.some.injEq, Prod.mk.injEq] at H
    obtain ⟨rfl, rfl, rfl⟩ := H
    go_wp2
    go_ret3
    exact ⟨_, ezz, by first | exact Kd.R_nil _ _ _ _ _ | exact Kd.N_nil _ _ _ _ _ | exact Kd.V_nil _ _ _ _ _ | exact Kd.Q_nil _ _ _ _ _ | exact Kd.S_nil _ _ _ _ _, bel⟩
   ·
    replace c9 := Bool.eq_false_iff.mpr c9
    subst c9
    rw [if_neg (show ¬ (false = true) by decide)] at H
    obtain ⟨y463, hy463⟩ : ∃ y_ : List Int, y_ = (([] : List Int)) := ⟨_, rfl⟩
    replace H : (if y463.length + l1.length < 17592186044416 then (dropperref06_play.l0 kj3 l2 (y463 ++ l1) 0 a0_0 l0_1) else (none)) = some (r1, r2, r3) := by first | (rw [hy463]; with_reducible exact H) | (have H2_ := (Option.bind_some _ _).symm.trans H; rw [hy463]; with_reducible exact H2_) | (have H2_ := (Option.bind_some _ _).symm.trans H; with_reducible exact H2_) | with_reducible exact H | (rw [hy463]; exact H) | exact H
    have Ny463 := Aside0.mk hy463
    clear hy463
    by_cases c10 : y463.length + l1.length < 17592186044416
    ·
     rw [if_pos c10] at H
     have LMc10 := Aside0.mk c10
     clear c10
     obtain ⟨y466, hy466⟩ : ∃ y_ : List Int, y_ = (y463 ++ l1) := ⟨_, rfl⟩
     replace H : (dropperref06_play.l0 kj3 l2 y466 0 a0_0 l0_1) = some (r1, r2, r3) := by first | (rw [hy466]; with_reducible exact H) | (have H2_ := (Option.bind_some _ _).symm.trans H; rw [hy466]; with_reducible exact H2_) | (have H2_ := (Option.bind_some _ _).symm.trans H; with_reducible exact H2_) | with_reducible exact H | (rw [hy466]; exact H) | exact H
     have Ny466 := Aside0.mk hy466
     clear hy466
     have H' := Aside0.mk H
     clear H
     go_wp2_with (first | ((with_reducible refine gate_dst (N := 26) rfl ?_); (try (refine gate_guard (by rfl) ?_; dsimp only)); refine Kd.R_lit (Kd.int .i64) _ 3 ?hg (N := 26) ?hd (xs := ([] : List Int)) (inner := []) (ok := fun _ => True) (okp := fun _ => True) ?hr ?hp (fun _ hk => hk) trivial (Below.refl _ _) (Nat.le_refl _) (by simp) ?_; (case hd => rfl); (case hg => rfl); (case hr => first | (go_simp; done) | (go_simp; rfl)); (case hp => exact (Reps.none _ _)); intro v464 w11 ho12 hb hg_ hnew_; clear hg_ hnew_; (first | rw [← Ny463.out] at ho12 | (simp only [Int.reduceToNat] at ho12; rw [← Ny463.out] at ho12)); have HO465 := Aside0.mk (Kd.R_lower ho12 (below_size bel)); replace BK461 := Aside0.mk (blk_below (g := gb461) blkz hb); replace HB := Aside0.mk (below_step bel hb); clear hb ho12) | ((with_reducible refine gate_builtin (b := .append) (xs := #[.tmp 26, .tmp 27]) rfl ?_); (try (refine gate_guard (by rfl) ?_; dsimp only)); at_builtin; refine Kd.R_append_rows (Kd.int .i64) (w0 := w) w.heap.size rfl (.tmp 26) (.tmp 27) 25 3 (.int .i64 0) 8 rfl Try.underlying25 info3 rfl (by decide) (by omega) v464 y463 l1 _ _ _ (fun _ => True) (fun _ => False) rfl rfl ?aO ?aR (fun _ _ h => h) (fun _ h => h.elim) ?aF ?aB ?aS ?aL ?_; (case aR => exact cbz HR1); (case aB => exact bel); (case aF => exact (fun _ _ => trivial)); (case aO => exact (ownx HO465)); (case aS => exact (below_size bel)); (case aL => have := LMc10.out; omega); intro v467 w13 ho hb hg hat; rw [← Ny466.out] at ho; have n0_ := Aside0.mk (blk_grown (g := gb461) (o := .cells #[.int .i64 a0_0, .slice A0_1 l0_1.length c0_1] 24 (0, 0)) blkz hg (Kd.R_ne HO465.out BK461.out (by decide))); have n1_ := Aside0.mk (hb); have n2_ := Aside0.mk (ho); clear BK461; clear HB; clear HO465; have BK461 := n0_; have HB := n1_; have HO468 := n2_; clear n0_ n1_ n2_; clear ho hb hg hat))
     go_loopg [6, 9] kj3 (fun kq v6 v9 w' => ∃ (x6_2 : List Int) (x9_2 : Int), v9 = .int .i64 x9_2 ∧ Aside0 (dropperref06_play.l0 kq l2 x6_2 x9_2 a0_0 l0_1 = some (r1, r2, r3)) ∧ Aside0 (kq ≤ kj3) ∧ Aside0 (Kd.R (Kd.int .i64) 3 w' w.heap.size (fun _ => True) v6 x6_2) ∧ Aside0 (w'.heap[gb461]? = some (.cells #[.int .i64 a0_0, (.slice A0_1 l0_1.length c0_1)] 24 (0, 0))) ∧ Aside0 (Below w.heap.size w w'))
     case atStart => exact ⟨(y466), (0), rsz, H', ⟨Nat.le_refl _⟩, ⟨by (with_reducible repeat (first | apply Kd.R_alloc | apply Kd.R_drewN | apply Kd.R_drew)); exact HO468.out⟩, ⟨blkz⟩, ⟨bel⟩⟩
     case round =>
      clear H'
      (try clear c1); (try clear c2); (try clear p2); (try clear c6); (try clear c6b0); (try clear c6b1); (try clear p6); (try clear c8); (try clear c9); (try clear c10); (try clear hcz8_0); (try clear hcz8_1); (try clear hfz8_0); (try clear hfz8_1); (try clear p2); (try clear p6)
      obtain ⟨x6_2, x9_2, rfl, HA, HK2, HO_6, BK461, HB⟩ := hrel
      cases gk with
      | zero => exact absurd HA.out (by simp [dropperref06_play.l0])
      | succ k2 =>
       have H := HA.out
       clear HA
       simp only [dropperref06_play.l0] at H
       by_cases c14 : x9_2 < (l2.length : Int)
       ·
        rw [if_pos c14] at H
        have c14b0 : decide (x9_2 < (l2.length : Int)) = true := decide_eq_true c14
        clear c14
        by_cases c15 : 0 ≤ x9_2
        ·
         rw [if_pos c15] at H
         have c15b0 : decide (0 ≤ x9_2) = true := decide_eq_true c15
         clear c15
         by_cases c16 : 0 ≤ (rd l2 x9_2)
         ·
          rw [if_pos c16] at H
          have c16b0 : decide (0 ≤ (rd l2 x9_2)) = true := decide_eq_true c16
          clear c16
          by_cases c17 : (rd l2 x9_2) < (l0_1.length : Int)
          ·
           rw [if_pos c17] at H
           have c17b0 : decide ((rd l2 x9_2) < (l0_1.length : Int)) = true := decide_eq_true c17
           clear c17
           replace H := Option.bind_eq_some_iff.mp H
           obtain ⟨⟨t471, t474⟩, A180, H⟩ := H
           try dsimp only at H
           have A18 := Aside0.mk A180
           clear A180
           by_cases c19 : t474 = true
           ·
            subst c19
            rw [if_pos rfl] at H
            have H' := Aside0.mk H
            clear H
            try go_wp2
            have n0_ := Aside0.mk (Kd.R_drew HO_6.out)
            have n1_ := Aside0.mk (blk_drew BK461.out)
            have n2_ := Aside0.mk (below_drew1 HB.out)
            clear HO_6
            clear BK461
            clear HB
            have HO_6 := n0_
            have BK461 := n1_
            have HB := n2_
            clear n0_ n1_ n2_
            have p469 : 0 ≤ (x9_2 : Int) := of_decide_eq_true asz
            have q469 : x9_2 < (l2.length : Int) := of_decide_eq_true asz
            obtain ⟨ad469, e469, hx469_0⟩ := Kd.at_int HR2.out x9_2 p469 q469
            have hw469_0 := hx469_0
            cases e469
            replace hx469_0 := (HB.out.cell (World.block_lt_of_cell? w _ hx469_0)).trans hx469_0
            replace p469 := eq_true p469
            replace q469 := eq_true q469
            have p470 : 0 ≤ ((rd l2 x9_2) : Int) := of_decide_eq_true asz
            have q470 : (rd l2 x9_2) < (l0_1.length : Int) := of_decide_eq_true asz
            obtain ⟨ad470, A470_0, c470_0, A470_1, c470_1, e470, hx470_0, hx470_1, hl470_0, hi470_0, hl470_1, hi470_1⟩ := at_T64 HR0_1.out (rd l2 x9_2) p470 q470
            have hw470_1 := hx470_1
            have hw470_0 := hx470_0
            cases e470
            replace hx470_0 := (HB.out.cell (World.block_lt_of_cell? w _ hx470_0)).trans hx470_0
            replace hx470_1 := (HB.out.cell (World.block_lt_of_cell? w _ hx470_1)).trans hx470_1
            have HR470_0 := Aside0.mk hi470_0
            have HC470_0 := Aside0.mk hl470_0
            clear hi470_0 hl470_0
            have HR470_1 := Aside0.mk hi470_1
            have HC470_1 := Aside0.mk hl470_1
            clear hi470_1 hl470_1
            replace p470 := eq_true p470
            replace q470 := eq_true q470
            obtain ⟨Ao21, co21, eo21⟩ := Kd.R_slice HO_6.out
            (first | subst eo21 | (injection eo21 with f1_ f2_ f3_; have f4_ := f1_.symm; have f5_ := f3_.symm; clear f1_ f2_ f3_; subst f4_; subst f5_))
            refine start_ (n := 15) (S := fun w' => w'.cell? ⟨gb461, 0, none⟩ = some (.int .i64 a0_0) ∧ w'.cell? ⟨gb461, 1, none⟩ = some (.slice (some ad470) l0_1.length c0_1) ∧ w'.cell? (ad469.add (x9_2).toNat) = some (.int .i64 (rd l2 x9_2)) ∧ w'.cell? (ad470.add (((rd l2 x9_2)).toNat * 2)) = some (.slice A470_0 ((rd_T64 l0_1 (rd l2 x9_2)).f0).length c470_0) ∧ w'.cell? ⟨(ad470.add (((rd l2 x9_2)).toNat * 2)).block, (ad470.add (((rd l2 x9_2)).toNat * 2)).off + 1, none⟩ = some (.slice A470_1 ((rd_T64 l0_1 (rd l2 x9_2)).f1).length c470_1)) (ds := []) #[false, false, false, false, false, false, false, false, false, false, false, false, false, false, false] (by kernel_rfl) rfl rfl ⟨(blk_cell BK461.out 0).trans rfl, (blk_cell BK461.out 1).trans rfl, ((HB.out.cell (World.block_lt_of_cell? w _ hw469_0)).trans hw469_0), ((HB.out.cell (World.block_lt_of_cell? w _ hw470_0)).trans hw470_0), ((HB.out.cell (World.block_lt_of_cell? w _ hw470_1)).trans hw470_1)⟩ (fun hHeld => ?_); refine with_tabW dropperref06_play.tab7 dropperref06_play.bits7 (fun HT_ HW_ => ?_)
            generalize wr.drew = w20 at HO_6 BK461 HB HR470_0 HR470_1 hx469_0 hx470_0 hx470_1 hHeld ⊢
            refine pst (i := 0) (N := some 36) (bz 15 1) (any_of HT_.out (by kernel_rfl)) ?_
            refine pst (i := 2) (N := some 38) (bz 15 5) (any_of HT_.out (by kernel_rfl)) ?_
            refine pst (i := 3) (N := some 39) (bz 15 13) (any_of HT_.out (by kernel_rfl)) ?_
            refine pst (i := 4) (N := some 40) (bz 15 29) (any_of HT_.out (by kernel_rfl)) ?_
            refine pst (i := 8) (N := some 44) (bz 15 285) (any_of HT_.out (by kernel_rfl)) ?_
            refine tst5 (i := 1) (N := some 37) (bz 15 287) (take_ofW HT_.out HW_.out (by kernel_rfl)) hHeld ?_
            refine tst5 (i := 5) (N := some 41) (bz 15 319) (take_ofW HT_.out HW_.out (by kernel_rfl)) hHeld ?_
            refine pst (i := 6) (N := some 42) (bz 15 383) (any_of HT_.out (by kernel_rfl)) ?_
            refine tst5 (i := 7) (N := some 43) (bz 15 511) (take_ofW HT_.out HW_.out (by kernel_rfl)) hHeld ?_
            refine one_ (i := 9) (N := some 45) #[true, true, true, true, true, true, true, true, true, true, false, false, false, false, false] rfl rfl (one_of HT_.out (by kernel_rfl)) (by decide) (fun K hK => ?_)
            refine goes_ Try.func77 (by kernel_rfl) rfl #[.agg #[.slice A470_0 ((rd_T64 l0_1 (rd l2 x9_2)).f0).length c470_0, .slice A470_1 ((rd_T64 l0_1 (rd l2 x9_2)).f1).length c470_1], .slice Ao21 x6_2.length co21] (by rfl) rfl rfl mapz ?_
            with_reducible refine (dropperref06_after.calls k2 _ _ ((rd_T64 l0_1 (rd l2 x9_2)).f0) _ _ ((rd_T64 l0_1 (rd l2 x9_2)).f1) _ _ x6_2 t471 true _ ?side1 ?side2 ?side3 ?side4 ?side5 ?side6 A18.out).mono ?_
            (case side1 => exact cbz HR470_0)
            (case side2 => exact HC470_0.out)
            (case side3 => exact cbz HR470_1)
            (case side4 => exact HC470_1.out)
            (case side5 => repeat (first | exact (Kd.R_reads' HO_6.out).2.2 | (with_reducible refine Kd.C_alloc ?_ _) | (with_reducible refine Kd.C_drewN ?_ _) | (with_reducible refine Kd.C_drew ?_)))
            (case side6 => exact (Kd.R_reads' HO_6.out).2.1)
            rintro e w22 ⟨v472, rfl, ho0, hb⟩
            refine ⟨_, rfl, ?_⟩
            have n0_ := Aside0.mk (Kd.R_elder' (ownx HO_6) (Kd.R_base ho0) hb)
            have n1_ := Aside0.mk (Kd.R_lower (Kd.R_new' ho0 (Kd.R_lt (ownx HO_6))) (below_size bel))
            have n2_ := Aside0.mk (blk_below (g := gb461) blkz hb)
            have n3_ := Aside0.mk (below_step bel hb)
            clear HO_6
            clear BK461
            clear HB
            have HO_6 := n0_
            have HO473 := n1_
            have BK461 := n2_
            have HB := n3_
            clear n0_ n1_ n2_ n3_
            (try clear hb)
            (try clear hb2)
            (try clear hk)
            (try clear hi)
            (try clear ho0)
            refine hK.out _ _ ⟨(blk_cell BK461.out 0).trans rfl, (blk_cell BK461.out 1).trans rfl, ((HB.out.cell (World.block_lt_of_cell? w _ hw469_0)).trans hw469_0), ((HB.out.cell (World.block_lt_of_cell? w _ hw470_0)).trans hw470_0), ((HB.out.cell (World.block_lt_of_cell? w _ hw470_1)).trans hw470_1)⟩ (fun hHeld => ?_)
            clear hK K
            refine norm_ (a' := ?_) ?_ ?_
            rotate_left
            ·
             show Act.put _ (some 45) _ = _
             simp only [Act.put, List.setIfInBounds_toArray, List.set_cons_zero, List.set_cons_succ, i64_w, i32_w]
             rfl
            refine pst (i := 10) (N := some 35) (bz 15 2047) (any_of HT_.out (by kernel_rfl)) ?_
            refine pst (i := 11) (N := some 46) (bz 15 4095) (any_of HT_.out (by kernel_rfl)) ?_
            refine pst (i := 12) (N := some 47) (bz 15 8191) (any_of HT_.out (by kernel_rfl)) ?_
            refine pst (i := 13) (N := some 10) (bz 15 16383) (any_of HT_.out (by kernel_rfl)) ?_
            refine pst (i := 14) (N := some 11) (bz 15 32767) (any_of HT_.out (by kernel_rfl)) ?_
            refine done_ (done_of HT_.out (by kernel_rfl)) ?_
            try go_wp2
            go_roundg k2
            case measure => have := HJ3.out; have := HK2.out; omega
            case rel => exact ⟨(t471), (wrap64 (x9_2 + 1)), rsz, H', ⟨by have := HJ3.out; have := HK2.out; omega⟩, ⟨by (with_reducible repeat (first | apply Kd.R_alloc | apply Kd.R_drewN | apply Kd.R_drew)); exact Kd.R_mono HO473.out (fun _ hk => trivial)⟩, ⟨blkz⟩, ⟨bel⟩⟩
           ·
            replace c19 := Bool.eq_false_iff.mpr c19
            subst c19
            rw [if_neg (show ¬ (false = true) by decide)] at H
            simp only [Option.some.injEq, Prod.mk.injEq] at H
            obtain ⟨rfl, rfl, rfl⟩ := H
            try go_wp2
            have n0_ := Aside0.mk (Kd.R_drew HO_6.out)
            have n1_ := Aside0.mk (blk_drew BK461.out)
            have n2_ := Aside0.mk (below_drew1 HB.out)
            clear HO_6
            clear BK461
            clear HB
            have HO_6 := n0_
            have BK461 := n1_
            have HB := n2_
            clear n0_ n1_ n2_
            have p469 : 0 ≤ (x9_2 : Int) := of_decide_eq_true asz
            have q469 : x9_2 < (l2.length : Int) := of_decide_eq_true asz
            obtain ⟨ad469, e469, hx469_0⟩ := Kd.at_int HR2.out x9_2 p469 q469
            have hw469_0 := hx469_0
            cases e469
            replace hx469_0 := (HB.out.cell (World.block_lt_of_cell? w _ hx469_0)).trans hx469_0
            replace p469 := eq_true p469
            replace q469 := eq_true q469
            have p470 : 0 ≤ ((rd l2 x9_2) : Int) := of_decide_eq_true asz
            have q470 : (rd l2 x9_2) < (l0_1.length : Int) := of_decide_eq_true asz
            obtain ⟨ad470, A470_0, c470_0, A470_1, c470_1, e470, hx470_0, hx470_1, hl470_0, hi470_0, hl470_1, hi470_1⟩ := at_T64 HR0_1.out (rd l2 x9_2) p470 q470
            have hw470_1 := hx470_1
            have hw470_0 := hx470_0
            cases e470
            replace hx470_0 := (HB.out.cell (World.block_lt_of_cell? w _ hx470_0)).trans hx470_0
            replace hx470_1 := (HB.out.cell (World.block_lt_of_cell? w _ hx470_1)).trans hx470_1
            have HR470_0 := Aside0.mk hi470_0
            have HC470_0 := Aside0.mk hl470_0
            clear hi470_0 hl470_0
            have HR470_1 := Aside0.mk hi470_1
            have HC470_1 := Aside0.mk hl470_1
            clear hi470_1 hl470_1
            replace p470 := eq_true p470
            replace q470 := eq_true q470
            obtain ⟨Ao24, co24, eo24⟩ := Kd.R_slice HO_6.out
            (first | subst eo24 | (injection eo24 with f1_ f2_ f3_; have f4_ := f1_.symm; have f5_ := f3_.symm; clear f1_ f2_ f3_; subst f4_; subst f5_))
            refine start_ (n := 15) (S := fun w' => w'.cell? ⟨gb461, 0, none⟩ = some (.int .i64 a0_0) ∧ w'.cell? ⟨gb461, 1, none⟩ = some (.slice (some ad470) l0_1.length c0_1) ∧ w'.cell? (ad469.add (x9_2).toNat) = some (.int .i64 (rd l2 x9_2)) ∧ w'.cell? (ad470.add (((rd l2 x9_2)).toNat * 2)) = some (.slice A470_0 ((rd_T64 l0_1 (rd l2 x9_2)).f0).length c470_0) ∧ w'.cell? ⟨(ad470.add (((rd l2 x9_2)).toNat * 2)).block, (ad470.add (((rd l2 x9_2)).toNat * 2)).off + 1, none⟩ = some (.slice A470_1 ((rd_T64 l0_1 (rd l2 x9_2)).f1).length c470_1)) (ds := []) #[false, false, false, false, false, false, false, false, false, false, false, false, false, false, false] (by kernel_rfl) rfl rfl ⟨(blk_cell BK461.out 0).trans rfl, (blk_cell BK461.out 1).trans rfl, ((HB.out.cell (World.block_lt_of_cell? w _ hw469_0)).trans hw469_0), ((HB.out.cell (World.block_lt_of_cell? w _ hw470_0)).trans hw470_0), ((HB.out.cell (World.block_lt_of_cell? w _ hw470_1)).trans hw470_1)⟩ (fun hHeld => ?_); refine with_tabW dropperref06_play.tab7 dropperref06_play.bits7 (fun HT_ HW_ => ?_)
            generalize wr.drew = w23 at HO_6 BK461 HB HR470_0 HR470_1 hx469_0 hx470_0 hx470_1 hHeld ⊢
            refine pst (i := 0) (N := some 36) (bz 15 1) (any_of HT_.out (by kernel_rfl)) ?_
            refine pst (i := 2) (N := some 38) (bz 15 5) (any_of HT_.out (by kernel_rfl)) ?_
            refine pst (i := 3) (N := some 39) (bz 15 13) (any_of HT_.out (by kernel_rfl)) ?_
            refine pst (i := 4) (N := some 40) (bz 15 29) (any_of HT_.out (by kernel_rfl)) ?_
            refine pst (i := 8) (N := some 44) (bz 15 285) (any_of HT_.out (by kernel_rfl)) ?_
            refine tst5 (i := 1) (N := some 37) (bz 15 287) (take_ofW HT_.out HW_.out (by kernel_rfl)) hHeld ?_
            refine tst5 (i := 5) (N := some 41) (bz 15 319) (take_ofW HT_.out HW_.out (by kernel_rfl)) hHeld ?_
            refine pst (i := 6) (N := some 42) (bz 15 383) (any_of HT_.out (by kernel_rfl)) ?_
            refine tst5 (i := 7) (N := some 43) (bz 15 511) (take_ofW HT_.out HW_.out (by kernel_rfl)) hHeld ?_
            refine one_ (i := 9) (N := some 45) #[true, true, true, true, true, true, true, true, true, true, false, false, false, false, false] rfl rfl (one_of HT_.out (by kernel_rfl)) (by decide) (fun K hK => ?_)
            refine goes_ Try.func77 (by kernel_rfl) rfl #[.agg #[.slice A470_0 ((rd_T64 l0_1 (rd l2 x9_2)).f0).length c470_0, .slice A470_1 ((rd_T64 l0_1 (rd l2 x9_2)).f1).length c470_1], .slice Ao24 x6_2.length co24] (by rfl) rfl rfl mapz ?_
            with_reducible refine (dropperref06_after.calls k2 _ _ ((rd_T64 l0_1 (rd l2 x9_2)).f0) _ _ ((rd_T64 l0_1 (rd l2 x9_2)).f1) _ _ x6_2 t471 false _ ?side1 ?side2 ?side3 ?side4 ?side5 ?side6 A18.out).mono ?_
            (case side1 => exact cbz HR470_0)
            (case side2 => exact HC470_0.out)
            (case side3 => exact cbz HR470_1)
            (case side4 => exact HC470_1.out)
            (case side5 => repeat (first | exact (Kd.R_reads' HO_6.out).2.2 | (with_reducible refine Kd.C_alloc ?_ _) | (with_reducible refine Kd.C_drewN ?_ _) | (with_reducible refine Kd.C_drew ?_)))
            (case side6 => exact (Kd.R_reads' HO_6.out).2.1)
            rintro e w25 ⟨v472, rfl, ho0, hb⟩
            refine ⟨_, rfl, ?_⟩
            have n0_ := Aside0.mk (Kd.R_elder' (ownx HO_6) (Kd.R_base ho0) hb)
            have n1_ := Aside0.mk (Kd.R_lower (Kd.R_new' ho0 (Kd.R_lt (ownx HO_6))) (below_size bel))
            have n2_ := Aside0.mk (blk_below (g := gb461) blkz hb)
            have n3_ := Aside0.mk (below_step bel hb)
            clear HO_6
            clear BK461
            clear HB
            have HO_6 := n0_
            have HO473 := n1_
            have BK461 := n2_
            have HB := n3_
            clear n0_ n1_ n2_ n3_
            (try clear hb)
            (try clear hb2)
            (try clear hk)
            (try clear hi)
            (try clear ho0)
            refine hK.out _ _ ⟨(blk_cell BK461.out 0).trans rfl, (blk_cell BK461.out 1).trans rfl, ((HB.out.cell (World.block_lt_of_cell? w _ hw469_0)).trans hw469_0), ((HB.out.cell (World.block_lt_of_cell? w _ hw470_0)).trans hw470_0), ((HB.out.cell (World.block_lt_of_cell? w _ hw470_1)).trans hw470_1)⟩ (fun hHeld => ?_)
            clear hK K
            refine norm_ (a' := ?_) ?_ ?_
            rotate_left
            ·
             show Act.put _ (some 45) _ = _
             simp only [Act.put, List.setIfInBounds_toArray, List.set_cons_zero, List.set_cons_succ, i64_w, i32_w]
             rfl
            refine pst (i := 10) (N := some 35) (bz 15 2047) (any_of HT_.out (by kernel_rfl)) ?_
            refine pst (i := 11) (N := some 46) (bz 15 4095) (any_of HT_.out (by kernel_rfl)) ?_
            refine pst (i := 12) (N := some 47) (bz 15 8191) (any_of HT_.out (by kernel_rfl)) ?_
            refine pst (i := 13) (N := some 10) (bz 15 16383) (any_of HT_.out (by kernel_rfl)) ?_
            refine pst (i := 14) (N := some 11) (bz 15 32767) (any_of HT_.out (by kernel_rfl)) ?_
            refine done_ (done_of HT_.out (by kernel_rfl)) ?_
            try go_wp2
            go_ret3
            exact ⟨_, ezz, by first | exact Kd.R_nil _ _ _ _ _ | exact Kd.N_nil _ _ _ _ _ | exact Kd.V_nil _ _ _ _ _ | exact Kd.Q_nil _ _ _ _ _ | exact Kd.S_nil _ _ _ _ _, bel⟩
          ·
           rw [if_neg c17] at H
           exact absurd H (by simp)
         ·
          rw [if_neg c16] at H
          exact absurd H (by simp)
        ·
         rw [if_neg c15] at H
         exact absurd H (by simp)
       ·
        rw [if_neg c14] at H
        have c14b0 : decide (x9_2 < (l2.length : Int)) = false := decide_eq_false c14
        clear c14
        simp only [Option.some.injEq, Prod.mk.injEq] at H
        obtain ⟨rfl, rfl, rfl⟩ := H
        go_wp2
        go_ret3
        exact ⟨_, ezz, by (with_reducible repeat (first | apply Kd.R_alloc | apply Kd.R_drewN | apply Kd.R_drew)); exact HO_6.out, bel⟩
    ·
     rw [if_neg c10] at H
     exact absurd H (by simp)

/-! ### dropperref06_After: function 44 -/
def dropperref06_After.f (k : Nat) (a0_0 : Int) (l0_1 : List (S64)) (l1 : List Int) (l2 : List Int) : Option (List Int × Int) := (dropperref06_asked.f k a0_0 l0_1 (([l1] : List (List Int)))).bind fun t479 => (if t479 = 0 then ((dropperref06_play.f k a0_0 l0_1 l1 l2).bind fun bt480 => (if bt480.2.1 = true then (if bt480.2.2 = true then (some (bt480.1, 0)) else (some (([] : List Int), 5))) else (some (([] : List Int), 2)))) else (some (([] : List Int), t479)))
set_option maxHeartbeats 8000000 in
set_option maxRecDepth 100000 in
theorem dropperref06_After.calls (k : Nat) (a0_0 : Int) (A0_1 : Option Addr) (c0_1 : Nat) (l0_1 : List (S64)) (P1_ : Nat → Prop) (A1 : Option Addr) (c1 : Nat) (l1 : List Int) (A2 : Option Addr) (c2 : Nat) (l2 : List Int) (r1 : List Int) (r2 : Int) (w : World) (hr0_1 : Kd.C k64 w A0_1 l0_1.length l0_1) (hc0_1 : l0_1.length ≤ c0_1) (hs1 : Kd.V (Kd.int .i64) 3 w w.heap.size (fun k_ => P1_ k_) (.slice A1 l1.length c1) l1) (hr2 : Kd.C (Kd.int .i64) w A2 l2.length l2) (hc2 : l2.length ≤ c2) (h : dropperref06_After.f k a0_0 l0_1 l1 l2 = some (r1, r2)) :
  Calls Try.prog 44 #[.agg #[.int .i64 a0_0, .slice A0_1 l0_1.length c0_1], .slice A1 l1.length c1, .slice A2 l2.length c2] w fun e w' => ∃ v0_ : Value, e = .returned (.tuple #[v0_, .int .i64 r2]) ∧ Kd.R (Kd.int .i64) 3 w' w.heap.size (fun k_ => (w.heap.size ≤ k_)) v0_ r1 ∧ Below w.heap.size w w' := by
 have hu24 := Try.underlying24
 have HR0_1 := Aside0.mk hr0_1
 have HC0_1 := Aside0.mk hc0_1
 clear hr0_1 hc0_1
 have HO1 := Aside0.mk (show Kd.V (Kd.int .i64) 3 w w.heap.size (fun k_ => (P1_ k_ ∨ w.heap.size ≤ k_)) (.slice A1 l1.length c1) l1 from Kd.V_mono hs1 (fun k_ hk => .inl hk))
 have HR2 := Aside0.mk hr2
 have HC2 := Aside0.mk hc2
 clear hr2 hc2
 have HB := Aside0.mk (Below.refl w.heap.size w)
 have H : ((dropperref06_asked.f k a0_0 l0_1 (([l1] : List (List Int)))).bind fun t479 => (if t479 = 0 then ((dropperref06_play.f k a0_0 l0_1 l1 l2).bind fun bt480 => (if bt480.2.1 = true then (if bt480.2.2 = true then (some (bt480.1, 0)) else (some (([] : List Int), 5))) else (some (([] : List Int), 2)))) else (some (([] : List Int), t479)))) = some (r1, r2) := h
 clear h
 obtain ⟨y476, hy476⟩ : ∃ y_ : List (List Int), y_ = (([l1] : List (List Int))) := ⟨_, rfl⟩
 replace H : ((dropperref06_asked.f k a0_0 l0_1 y476).bind fun t479 => (if t479 = 0 then ((dropperref06_play.f k a0_0 l0_1 l1 l2).bind fun bt480 => (if bt480.2.1 = true then (if bt480.2.2 = true then (some (bt480.1, 0)) else (some (([] : List Int), 5))) else (some (([] : List Int), 2)))) else (some (([] : List Int), t479)))) = some (r1, r2) := by first | (rw [hy476]; with_reducible exact H) | (have H2_ := (Option.bind_some _ _).symm.trans H; rw [hy476]; with_reducible exact H2_) | (have H2_ := (Option.bind_some _ _).symm.trans H; with_reducible exact H2_) | with_reducible exact H | (rw [hy476]; exact H) | exact H
 have Ny476 := Aside0.mk hy476
 clear hy476
 replace H := Option.bind_eq_some_iff.mp H
 obtain ⟨t479, A40, H⟩ := H
 try dsimp only at H
 have A4 := Aside0.mk A40
 clear A40
 by_cases c5 : t479 = 0
 ·
  rw [if_pos c5] at H
  have c5b0 : (t479 == 0) = true := beq_iff_eq.mpr c5
  have c5b1 : (t479 != 0) = false := bne_eq_false_iff_eq.mpr c5
  clear c5
  replace H := Option.bind_eq_some_iff.mp H
  obtain ⟨⟨t480, t483, t484⟩, A60, H⟩ := H
  try dsimp only at H
  have A6 := Aside0.mk A60
  clear A60
  by_cases c7 : t483 = true
  ·
   subst c7
   rw [if_pos rfl] at H
   by_cases c8 : t484 = true
   ·
    subst c8
    rw [if_pos rfl] at H
    simp only [Option.some.injEq, Prod.mk.injEq] at H
    obtain ⟨rfl, rfl⟩ := H
    go_enter Try.func44, Try.ntmps44
    go_wp2_with (first | ((with_reducible refine gate_dst (N := 3) rfl ?_); refine box_event ?hg (N := 3) ?hd (cs := #[.int .i64 a0_0, .slice A0_1 l0_1.length c0_1]) (t := 24) ?hr ?_; (case hd => rfl); (case hg => rfl); (case hr => first | (go_simp; done) | (go_simp; rfl)); intro gb475 hg w9 hbox hb; have BK475 := Aside0.mk (hbox); have GW475 := bsz (w := w) hg; have GE475 := GW475; replace HO1 := Aside0.mk (Kd.V_below (Kd.V_elderB (by (with_reducible repeat (first | apply Kd.V_alloc | apply Kd.V_drewN | apply Kd.V_drew)); exact HO1.out) gb475 (Nat.le_of_eq hg.symm)) hb); replace HB := Aside0.mk (below_step bel hb); clear hb hbox hg; obtain ⟨hcz10_0, hcz10_1⟩ := bc2 BK475.out) | ((with_reducible refine gate_dst (N := 14) rfl ?_); refine Kd.N_lit (Kd.slice 3 (Kd.int .i64)) _ 25 ?hg (N' := 14) ?hd (xs := ([l1] : List (List Int))) (inner := [.slice A1 l1.length c1]) (ok := (fun k_ => (P1_ k_ ∨ w.heap.size ≤ k_) ∧ k_ ≠ gb475)) (okp := (fun k_ => (P1_ k_ ∨ w.heap.size ≤ k_) ∧ k_ ≠ gb475)) ?hr ?hp (fun _ hk => hk) ((show ∀ k_, w9.heap.size ≤ k_ → (fun k_ => (P1_ k_ ∨ w.heap.size ≤ k_) ∧ k_ ≠ gb475) k_ from fun k_ hk => ⟨(.inr (Nat.le_trans (below_size bel) hk)), Kd.freshB (g := gb475) (o := .cells #[.int .i64 a0_0, .slice A0_1 l0_1.length c0_1] 24 (0, 0)) blkz k_ hk⟩) _ (Nat.le_refl _)) (Below.refl _ _) (Nat.le_refl _) (by simp) ?_; (case hd => rfl); (case hg => rfl); (case hr => first | (go_simp; done) | (go_simp; rfl)); (case hp => exact (Reps.one (show Kd.FK (Kd.slice 3 (Kd.int .i64)) _ _ l1 [.slice A1 l1.length c1] from (Kd.FK_slice_mk (Kd.V_reads' (Kd.V_mono (ok' := (fun k_ => (P1_ k_ ∨ w.heap.size ≤ k_) ∧ k_ ≠ gb475)) (HO1.out) (fun k_ hk => ⟨hk.1, hk.2⟩))).2.1 (Kd.V_F (Kd.V_mono (ok' := (fun k_ => (P1_ k_ ∨ w.heap.size ≤ k_) ∧ k_ ≠ gb475)) (HO1.out) (fun k_ hk => ⟨hk.1, hk.2⟩))))) (Reps.none _ _))); intro v477 w11 ho12 hb hg_ hnew_; clear hg_ hnew_; (first | rw [← Ny476.out] at ho12 | (simp only [Int.reduceToNat] at ho12; rw [← Ny476.out] at ho12)); have HO478 := Aside0.mk (Kd.N_lower ho12 (below_size bel)); replace HO1 := Aside0.mk (Kd.V_elder' (by (with_reducible repeat (first | apply Kd.V_alloc | apply Kd.V_drewN | apply Kd.V_drew)); exact HO1.out) (Kd.N_base ho12) hb); replace BK475 := Aside0.mk (blk_below (g := gb475) blkz hb); replace HB := Aside0.mk (below_step bel hb); clear hb ho12; obtain ⟨Ao13, co13, eo13⟩ := Kd.N_slice HO478.out; subst eo13) | ((with_reducible refine gate_callee (f := 72) rfl ?_); refine goesL_ (some 15) rfl rfl Try.func72 (by kernel_rfl) rfl #[.agg #[.int .i64 a0_0, .slice A0_1 l0_1.length c0_1], .slice Ao13 y476.length co13] rfl mapz ?_; (with_reducible refine (dropperref06_asked.calls k a0_0 _ _ l0_1 _ _ y476 t479 _ (cbz HR0_1) HC0_1.out ?side3 ?side4 A4.out).mono ?_); (case side3 => repeat (first | exact (Kd.N_reads' HO478.out).2.2 | (with_reducible refine Kd.C_alloc ?_ _) | (with_reducible refine Kd.C_drewN ?_ _) | (with_reducible refine Kd.C_drew ?_))); (case side4 => exact (Kd.N_reads' HO478.out).2.1); rintro e w14 ⟨rfl, hb⟩; refine ⟨_, rfl, ?_⟩; replace HO1 := Aside0.mk (Kd.V_below (by (with_reducible repeat (first | apply Kd.V_alloc | apply Kd.V_drewN | apply Kd.V_drew)); exact HO1.out) hb); replace HO478 := Aside0.mk (Kd.N_below (by (with_reducible repeat (first | apply Kd.N_alloc | apply Kd.N_drewN | apply Kd.N_drew)); exact HO478.out) hb); replace BK475 := Aside0.mk (blk_below (g := gb475) blkz hb); replace HB := Aside0.mk (below_step bel hb); clear hb; obtain ⟨hcz15_0, hcz15_1⟩ := bc2 BK475.out) | ((with_reducible refine gate_callee (f := 81) rfl ?_); refine goesL_ (some 23) rfl rfl Try.func81 (by kernel_rfl) rfl #[.agg #[.int .i64 a0_0, .slice A0_1 l0_1.length c0_1], .slice A1 l1.length c1, .slice A2 l2.length c2] rfl mapz ?_; (with_reducible refine (dropperref06_play.calls k a0_0 _ _ l0_1 _ _ l1 _ _ l2 t480 true true _ (cbz HR0_1) HC0_1.out ?side3 ?side4 (cbz HR2) HC2.out A6.out).mono ?_); (case side3 => repeat (first | exact (Kd.V_reads' HO1.out).2.2 | (with_reducible refine Kd.C_alloc ?_ _) | (with_reducible refine Kd.C_drewN ?_ _) | (with_reducible refine Kd.C_drew ?_))); (case side4 => exact (Kd.V_reads' HO1.out).2.1); rintro e w16 ⟨v481, rfl, ho0, hb⟩; refine ⟨_, rfl, ?_⟩; have HO482 := Aside0.mk (Kd.R_lower (Kd.R_newM (M := fun k_ => (w.heap.size ≤ k_)) ho0 (below_size bel) (fun k_ h_ => h_)) (below_size bel)); replace HO1 := Aside0.mk (Kd.V_elder' (by (with_reducible repeat (first | apply Kd.V_alloc | apply Kd.V_drewN | apply Kd.V_drew)); exact HO1.out) (Kd.R_base ho0) hb); replace HO478 := Aside0.mk (Kd.N_elder' (by (with_reducible repeat (first | apply Kd.N_alloc | apply Kd.N_drewN | apply Kd.N_drew)); exact HO478.out) (Kd.R_base ho0) hb); replace BK475 := Aside0.mk (blk_below (g := gb475) blkz hb); replace HB := Aside0.mk (below_step bel hb); (try clear hb); (try clear hb2); (try clear hk); (try clear hi); (try clear ho0)))
    go_ret2
    exact ⟨_, ezz, by (with_reducible repeat (first | apply Kd.R_alloc | apply Kd.R_drewN | apply Kd.R_drew)); exact Kd.R_mono HO482.out (fun _ hk => hk.1), bel⟩
   ·
    replace c8 := Bool.eq_false_iff.mpr c8
    subst c8
    rw [if_neg (show ¬ (false = true) by decide)] at H
    simp only [Option.some.injEq, Prod.mk.injEq] at H
    obtain ⟨rfl, rfl⟩ := H
    go_enter Try.func44, Try.ntmps44
    go_wp2_with (first | ((with_reducible refine gate_dst (N := 3) rfl ?_); refine box_event ?hg (N := 3) ?hd (cs := #[.int .i64 a0_0, .slice A0_1 l0_1.length c0_1]) (t := 24) ?hr ?_; (case hd => rfl); (case hg => rfl); (case hr => first | (go_simp; done) | (go_simp; rfl)); intro gb475 hg w17 hbox hb; have BK475 := Aside0.mk (hbox); have GW475 := bsz (w := w) hg; have GE475 := GW475; replace HO1 := Aside0.mk (Kd.V_below (Kd.V_elderB (by (with_reducible repeat (first | apply Kd.V_alloc | apply Kd.V_drewN | apply Kd.V_drew)); exact HO1.out) gb475 (Nat.le_of_eq hg.symm)) hb); replace HB := Aside0.mk (below_step bel hb); clear hb hbox hg; obtain ⟨hcz18_0, hcz18_1⟩ := bc2 BK475.out) | ((with_reducible refine gate_dst (N := 14) rfl ?_); refine Kd.N_lit (Kd.slice 3 (Kd.int .i64)) _ 25 ?hg (N' := 14) ?hd (xs := ([l1] : List (List Int))) (inner := [.slice A1 l1.length c1]) (ok := (fun k_ => (P1_ k_ ∨ w.heap.size ≤ k_) ∧ k_ ≠ gb475)) (okp := (fun k_ => (P1_ k_ ∨ w.heap.size ≤ k_) ∧ k_ ≠ gb475)) ?hr ?hp (fun _ hk => hk) ((show ∀ k_, w17.heap.size ≤ k_ → (fun k_ => (P1_ k_ ∨ w.heap.size ≤ k_) ∧ k_ ≠ gb475) k_ from fun k_ hk => ⟨(.inr (Nat.le_trans (below_size bel) hk)), Kd.freshB (g := gb475) (o := .cells #[.int .i64 a0_0, .slice A0_1 l0_1.length c0_1] 24 (0, 0)) blkz k_ hk⟩) _ (Nat.le_refl _)) (Below.refl _ _) (Nat.le_refl _) (by simp) ?_; (case hd => rfl); (case hg => rfl); (case hr => first | (go_simp; done) | (go_simp; rfl)); (case hp => exact (Reps.one (show Kd.FK (Kd.slice 3 (Kd.int .i64)) _ _ l1 [.slice A1 l1.length c1] from (Kd.FK_slice_mk (Kd.V_reads' (Kd.V_mono (ok' := (fun k_ => (P1_ k_ ∨ w.heap.size ≤ k_) ∧ k_ ≠ gb475)) (HO1.out) (fun k_ hk => ⟨hk.1, hk.2⟩))).2.1 (Kd.V_F (Kd.V_mono (ok' := (fun k_ => (P1_ k_ ∨ w.heap.size ≤ k_) ∧ k_ ≠ gb475)) (HO1.out) (fun k_ hk => ⟨hk.1, hk.2⟩))))) (Reps.none _ _))); intro v477 w19 ho20 hb hg_ hnew_; clear hg_ hnew_; (first | rw [← Ny476.out] at ho20 | (simp only [Int.reduceToNat] at ho20; rw [← Ny476.out] at ho20)); have HO478 := Aside0.mk (Kd.N_lower ho20 (below_size bel)); replace HO1 := Aside0.mk (Kd.V_elder' (by (with_reducible repeat (first | apply Kd.V_alloc | apply Kd.V_drewN | apply Kd.V_drew)); exact HO1.out) (Kd.N_base ho20) hb); replace BK475 := Aside0.mk (blk_below (g := gb475) blkz hb); replace HB := Aside0.mk (below_step bel hb); clear hb ho20; obtain ⟨Ao21, co21, eo21⟩ := Kd.N_slice HO478.out; subst eo21) | ((with_reducible refine gate_callee (f := 72) rfl ?_); refine goesL_ (some 15) rfl rfl Try.func72 (by kernel_rfl) rfl #[.agg #[.int .i64 a0_0, .slice A0_1 l0_1.length c0_1], .slice Ao21 y476.length co21] rfl mapz ?_; (with_reducible refine (dropperref06_asked.calls k a0_0 _ _ l0_1 _ _ y476 t479 _ (cbz HR0_1) HC0_1.out ?side3 ?side4 A4.out).mono ?_); (case side3 => repeat (first | exact (Kd.N_reads' HO478.out).2.2 | (with_reducible refine Kd.C_alloc ?_ _) | (with_reducible refine Kd.C_drewN ?_ _) | (with_reducible refine Kd.C_drew ?_))); (case side4 => exact (Kd.N_reads' HO478.out).2.1); rintro e w22 ⟨rfl, hb⟩; refine ⟨_, rfl, ?_⟩; replace HO1 := Aside0.mk (Kd.V_below (by (with_reducible repeat (first | apply Kd.V_alloc | apply Kd.V_drewN | apply Kd.V_drew)); exact HO1.out) hb); replace HO478 := Aside0.mk (Kd.N_below (by (with_reducible repeat (first | apply Kd.N_alloc | apply Kd.N_drewN | apply Kd.N_drew)); exact HO478.out) hb); replace BK475 := Aside0.mk (blk_below (g := gb475) blkz hb); replace HB := Aside0.mk (below_step bel hb); clear hb; obtain ⟨hcz23_0, hcz23_1⟩ := bc2 BK475.out) | ((with_reducible refine gate_callee (f := 81) rfl ?_); refine goesL_ (some 23) rfl rfl Try.func81 (by kernel_rfl) rfl #[.agg #[.int .i64 a0_0, .slice A0_1 l0_1.length c0_1], .slice A1 l1.length c1, .slice A2 l2.length c2] rfl mapz ?_; (with_reducible refine (dropperref06_play.calls k a0_0 _ _ l0_1 _ _ l1 _ _ l2 t480 true false _ (cbz HR0_1) HC0_1.out ?side3 ?side4 (cbz HR2) HC2.out A6.out).mono ?_); (case side3 => repeat (first | exact (Kd.V_reads' HO1.out).2.2 | (with_reducible refine Kd.C_alloc ?_ _) | (with_reducible refine Kd.C_drewN ?_ _) | (with_reducible refine Kd.C_drew ?_))); (case side4 => exact (Kd.V_reads' HO1.out).2.1); rintro e w24 ⟨v481, rfl, ho0, hb⟩; refine ⟨_, rfl, ?_⟩; have HO482 := Aside0.mk (Kd.R_lower (Kd.R_newM (M := fun k_ => (w.heap.size ≤ k_)) ho0 (below_size bel) (fun k_ h_ => h_)) (below_size bel)); replace HO1 := Aside0.mk (Kd.V_elder' (by (with_reducible repeat (first | apply Kd.V_alloc | apply Kd.V_drewN | apply Kd.V_drew)); exact HO1.out) (Kd.R_base ho0) hb); replace HO478 := Aside0.mk (Kd.N_elder' (by (with_reducible repeat (first | apply Kd.N_alloc | apply Kd.N_drewN | apply Kd.N_drew)); exact HO478.out) (Kd.R_base ho0) hb); replace BK475 := Aside0.mk (blk_below (g := gb475) blkz hb); replace HB := Aside0.mk (below_step bel hb); (try clear hb); (try clear hb2); (try clear hk); (try clear hi); (try clear ho0)))
    go_ret2
    exact ⟨_, ezz, by first | exact Kd.R_nil _ _ _ _ _ | exact Kd.N_nil _ _ _ _ _ | exact Kd.V_nil _ _ _ _ _ | exact Kd.Q_nil _ _ _ _ _ | exact Kd.S_nil _ _ _ _ _, bel⟩
  ·
   replace c7 := Bool.eq_false_iff.mpr c7
   subst c7
   rw [if_neg (show ¬ (false = true) by decide)] at H
   simp only [Option.some.injEq, Prod.mk.injEq] at H
   obtain ⟨rfl, rfl⟩ := H
   go_enter Try.func44, Try.ntmps44
   go_wp2_with (first | ((with_reducible refine gate_dst (N := 3) rfl ?_); refine box_event ?hg (N := 3) ?hd (cs := #[.int .i64 a0_0, .slice A0_1 l0_1.length c0_1]) (t := 24) ?hr ?_; (case hd => rfl); (case hg => rfl); (case hr => first | (go_simp; done) | (go_simp; rfl)); intro gb475 hg w25 hbox hb; have BK475 := Aside0.mk (hbox); have GW475 := bsz (w := w) hg; have GE475 := GW475; replace HO1 := Aside0.mk (Kd.V_below (Kd.V_elderB (by (with_reducible repeat (first | apply Kd.V_alloc | apply Kd.V_drewN | apply Kd.V_drew)); exact HO1.out) gb475 (Nat.le_of_eq hg.symm)) hb); replace HB := Aside0.mk (below_step bel hb); clear hb hbox hg; obtain ⟨hcz26_0, hcz26_1⟩ := bc2 BK475.out) | ((with_reducible refine gate_dst (N := 14) rfl ?_); refine Kd.N_lit (Kd.slice 3 (Kd.int .i64)) _ 25 ?hg (N' := 14) ?hd (xs := ([l1] : List (List Int))) (inner := [.slice A1 l1.length c1]) (ok := (fun k_ => (P1_ k_ ∨ w.heap.size ≤ k_) ∧ k_ ≠ gb475)) (okp := (fun k_ => (P1_ k_ ∨ w.heap.size ≤ k_) ∧ k_ ≠ gb475)) ?hr ?hp (fun _ hk => hk) ((show ∀ k_, w25.heap.size ≤ k_ → (fun k_ => (P1_ k_ ∨ w.heap.size ≤ k_) ∧ k_ ≠ gb475) k_ from fun k_ hk => ⟨(.inr (Nat.le_trans (below_size bel) hk)), Kd.freshB (g := gb475) (o := .cells #[.int .i64 a0_0, .slice A0_1 l0_1.length c0_1] 24 (0, 0)) blkz k_ hk⟩) _ (Nat.le_refl _)) (Below.refl _ _) (Nat.le_refl _) (by simp) ?_; (case hd => rfl); (case hg => rfl); (case hr => first | (go_simp; done) | (go_simp; rfl)); (case hp => exact (Reps.one (show Kd.FK (Kd.slice 3 (Kd.int .i64)) _ _ l1 [.slice A1 l1.length c1] from (Kd.FK_slice_mk (Kd.V_reads' (Kd.V_mono (ok' := (fun k_ => (P1_ k_ ∨ w.heap.size ≤ k_) ∧ k_ ≠ gb475)) (HO1.out) (fun k_ hk => ⟨hk.1, hk.2⟩))).2.1 (Kd.V_F (Kd.V_mono (ok' := (fun k_ => (P1_ k_ ∨ w.heap.size ≤ k_) ∧ k_ ≠ gb475)) (HO1.out) (fun k_ hk => ⟨hk.1, hk.2⟩))))) (Reps.none _ _))); intro v477 w27 ho28 hb hg_ hnew_; clear hg_ hnew_; (first | rw [← Ny476.out] at ho28 | (simp only [Int.reduceToNat] at ho28; rw [← Ny476.out] at ho28)); have HO478 := Aside0.mk (Kd.N_lower ho28 (below_size bel)); replace HO1 := Aside0.mk (Kd.V_elder' (by (with_reducible repeat (first | apply Kd.V_alloc | apply Kd.V_drewN | apply Kd.V_drew)); exact HO1.out) (Kd.N_base ho28) hb); replace BK475 := Aside0.mk (blk_below (g := gb475) blkz hb); replace HB := Aside0.mk (below_step bel hb); clear hb ho28; obtain ⟨Ao29, co29, eo29⟩ := Kd.N_slice HO478.out; subst eo29) | ((with_reducible refine gate_callee (f := 72) rfl ?_); refine goesL_ (some 15) rfl rfl Try.func72 (by kernel_rfl) rfl #[.agg #[.int .i64 a0_0, .slice A0_1 l0_1.length c0_1], .slice Ao29 y476.length co29] rfl mapz ?_; (with_reducible refine (dropperref06_asked.calls k a0_0 _ _ l0_1 _ _ y476 t479 _ (cbz HR0_1) HC0_1.out ?side3 ?side4 A4.out).mono ?_); (case side3 => repeat (first | exact (Kd.N_reads' HO478.out).2.2 | (with_reducible refine Kd.C_alloc ?_ _) | (with_reducible refine Kd.C_drewN ?_ _) | (with_reducible refine Kd.C_drew ?_))); (case side4 => exact (Kd.N_reads' HO478.out).2.1); rintro e w30 ⟨rfl, hb⟩; refine ⟨_, rfl, ?_⟩; replace HO1 := Aside0.mk (Kd.V_below (by (with_reducible repeat (first | apply Kd.V_alloc | apply Kd.V_drewN | apply Kd.V_drew)); exact HO1.out) hb); replace HO478 := Aside0.mk (Kd.N_below (by (with_reducible repeat (first | apply Kd.N_alloc | apply Kd.N_drewN | apply Kd.N_drew)); exact HO478.out) hb); replace BK475 := Aside0.mk (blk_below (g := gb475) blkz hb); replace HB := Aside0.mk (below_step bel hb); clear hb; obtain ⟨hcz31_0, hcz31_1⟩ := bc2 BK475.out) | ((with_reducible refine gate_callee (f := 81) rfl ?_); refine goesL_ (some 23) rfl rfl Try.func81 (by kernel_rfl) rfl #[.agg #[.int .i64 a0_0, .slice A0_1 l0_1.length c0_1], .slice A1 l1.length c1, .slice A2 l2.length c2] rfl mapz ?_; (with_reducible refine (dropperref06_play.calls k a0_0 _ _ l0_1 _ _ l1 _ _ l2 t480 false t484 _ (cbz HR0_1) HC0_1.out ?side3 ?side4 (cbz HR2) HC2.out A6.out).mono ?_); (case side3 => repeat (first | exact (Kd.V_reads' HO1.out).2.2 | (with_reducible refine Kd.C_alloc ?_ _) | (with_reducible refine Kd.C_drewN ?_ _) | (with_reducible refine Kd.C_drew ?_))); (case side4 => exact (Kd.V_reads' HO1.out).2.1); rintro e w32 ⟨v481, rfl, ho0, hb⟩; refine ⟨_, rfl, ?_⟩; have HO482 := Aside0.mk (Kd.R_lower (Kd.R_newM (M := fun k_ => (w.heap.size ≤ k_)) ho0 (below_size bel) (fun k_ h_ => h_)) (below_size bel)); replace HO1 := Aside0.mk (Kd.V_elder' (by (with_reducible repeat (first | apply Kd.V_alloc | apply Kd.V_drewN | apply Kd.V_drew)); exact HO1.out) (Kd.R_base ho0) hb); replace HO478 := Aside0.mk (Kd.N_elder' (by (with_reducible repeat (first | apply Kd.N_alloc | apply Kd.N_drewN | apply Kd.N_drew)); exact HO478.out) (Kd.R_base ho0) hb); replace BK475 := Aside0.mk (blk_below (g := gb475) blkz hb); replace HB := Aside0.mk (below_step bel hb); (try clear hb); (try clear hb2); (try clear hk); (try clear hi); (try clear ho0)))
   go_ret2
   exact ⟨_, ezz, by first | exact Kd.R_nil _ _ _ _ _ | exact Kd.N_nil _ _ _ _ _ | exact Kd.V_nil _ _ _ _ _ | exact Kd.Q_nil _ _ _ _ _ | exact Kd.S_nil _ _ _ _ _, bel⟩
 ·
  rw [if_neg c5] at H
  have c5b0 : (t479 == 0) = false := beq_eq_false_iff_ne.mpr c5
  have c5b1 : (t479 != 0) = true := bne_iff_ne.mpr c5
  simp only [Option.some.injEq, Prod.mk.injEq] at H
  obtain ⟨rfl, rfl⟩ := H
  go_enter Try.func44, Try.ntmps44
  go_wp2_with (first | ((with_reducible refine gate_dst (N := 3) rfl ?_); refine box_event ?hg (N := 3) ?hd (cs := #[.int .i64 a0_0, .slice A0_1 l0_1.length c0_1]) (t := 24) ?hr ?_; (case hd => rfl); (case hg => rfl); (case hr => first | (go_simp; done) | (go_simp; rfl)); intro gb475 hg w33 hbox hb; have BK475 := Aside0.mk (hbox); have GW475 := bsz (w := w) hg; have GE475 := GW475; replace HO1 := Aside0.mk (Kd.V_below (Kd.V_elderB (by (with_reducible repeat (first | apply Kd.V_alloc | apply Kd.V_drewN | apply Kd.V_drew)); exact HO1.out) gb475 (Nat.le_of_eq hg.symm)) hb); replace HB := Aside0.mk (below_step bel hb); clear hb hbox hg; obtain ⟨hcz34_0, hcz34_1⟩ := bc2 BK475.out) | ((with_reducible refine gate_dst (N := 14) rfl ?_); refine Kd.N_lit (Kd.slice 3 (Kd.int .i64)) _ 25 ?hg (N' := 14) ?hd (xs := ([l1] : List (List Int))) (inner := [.slice A1 l1.length c1]) (ok := (fun k_ => (P1_ k_ ∨ w.heap.size ≤ k_) ∧ k_ ≠ gb475)) (okp := (fun k_ => (P1_ k_ ∨ w.heap.size ≤ k_) ∧ k_ ≠ gb475)) ?hr ?hp (fun _ hk => hk) ((show ∀ k_, w33.heap.size ≤ k_ → (fun k_ => (P1_ k_ ∨ w.heap.size ≤ k_) ∧ k_ ≠ gb475) k_ from fun k_ hk => ⟨(.inr (Nat.le_trans (below_size bel) hk)), Kd.freshB (g := gb475) (o := .cells #[.int .i64 a0_0, .slice A0_1 l0_1.length c0_1] 24 (0, 0)) blkz k_ hk⟩) _ (Nat.le_refl _)) (Below.refl _ _) (Nat.le_refl _) (by simp) ?_; (case hd => rfl); (case hg => rfl); (case hr => first | (go_simp; done) | (go_simp; rfl)); (case hp => exact (Reps.one (show Kd.FK (Kd.slice 3 (Kd.int .i64)) _ _ l1 [.slice A1 l1.length c1] from (Kd.FK_slice_mk (Kd.V_reads' (Kd.V_mono (ok' := (fun k_ => (P1_ k_ ∨ w.heap.size ≤ k_) ∧ k_ ≠ gb475)) (HO1.out) (fun k_ hk => ⟨hk.1, hk.2⟩))).2.1 (Kd.V_F (Kd.V_mono (ok' := (fun k_ => (P1_ k_ ∨ w.heap.size ≤ k_) ∧ k_ ≠ gb475)) (HO1.out) (fun k_ hk => ⟨hk.1, hk.2⟩))))) (Reps.none _ _))); intro v477 w35 ho36 hb hg_ hnew_; clear hg_ hnew_; (first | rw [← Ny476.out] at ho36 | (simp only [Int.reduceToNat] at ho36; rw [← Ny476.out] at ho36)); have HO478 := Aside0.mk (Kd.N_lower ho36 (below_size bel)); replace HO1 := Aside0.mk (Kd.V_elder' (by (with_reducible repeat (first | apply Kd.V_alloc | apply Kd.V_drewN | apply Kd.V_drew)); exact HO1.out) (Kd.N_base ho36) hb); replace BK475 := Aside0.mk (blk_below (g := gb475) blkz hb); replace HB := Aside0.mk (below_step bel hb); clear hb ho36; obtain ⟨Ao37, co37, eo37⟩ := Kd.N_slice HO478.out; subst eo37) | ((with_reducible refine gate_callee (f := 72) rfl ?_); refine goesL_ (some 15) rfl rfl Try.func72 (by kernel_rfl) rfl #[.agg #[.int .i64 a0_0, .slice A0_1 l0_1.length c0_1], .slice Ao37 y476.length co37] rfl mapz ?_; (with_reducible refine (dropperref06_asked.calls k a0_0 _ _ l0_1 _ _ y476 t479 _ (cbz HR0_1) HC0_1.out ?side3 ?side4 A4.out).mono ?_); (case side3 => repeat (first | exact (Kd.N_reads' HO478.out).2.2 | (with_reducible refine Kd.C_alloc ?_ _) | (with_reducible refine Kd.C_drewN ?_ _) | (with_reducible refine Kd.C_drew ?_))); (case side4 => exact (Kd.N_reads' HO478.out).2.1); rintro e w38 ⟨rfl, hb⟩; refine ⟨_, rfl, ?_⟩; replace HO1 := Aside0.mk (Kd.V_below (by (with_reducible repeat (first | apply Kd.V_alloc | apply Kd.V_drewN | apply Kd.V_drew)); exact HO1.out) hb); replace HO478 := Aside0.mk (Kd.N_below (by (with_reducible repeat (first | apply Kd.N_alloc | apply Kd.N_drewN | apply Kd.N_drew)); exact HO478.out) hb); replace BK475 := Aside0.mk (blk_below (g := gb475) blkz hb); replace HB := Aside0.mk (below_step bel hb); clear hb))
  go_ret2
  exact ⟨_, ezz, by first | exact Kd.R_nil _ _ _ _ _ | exact Kd.N_nil _ _ _ _ _ | exact Kd.V_nil _ _ _ _ _ | exact Kd.Q_nil _ _ _ _ _ | exact Kd.S_nil _ _ _ _ _, bel⟩

/-! ### dropperref06_Make: function 42 -/
def dropperref06_Make.f (k : Nat) (a0_0 : Int) (l0_1 : List (S64)) (l1 : List Int) (a2 : Int) : Option (List Int × Int) := (dropperref06_After.f k a0_0 l0_1 l1 (([a2] : List Int))).bind fun bt489 => (some (bt489.1, bt489.2))
set_option maxHeartbeats 8000000 in
set_option maxRecDepth 100000 in
theorem dropperref06_Make.calls (k : Nat) (a0_0 : Int) (A0_1 : Option Addr) (c0_1 : Nat) (l0_1 : List (S64)) (A1 : Option Addr) (c1 : Nat) (l1 : List Int) (a2 : Int) (r1 : List Int) (r2 : Int) (w : World) (hr0_1 : Kd.C k64 w A0_1 l0_1.length l0_1) (hc0_1 : l0_1.length ≤ c0_1) (hr1 : Kd.C (Kd.int .i64) w A1 l1.length l1) (hc1 : l1.length ≤ c1) (h : dropperref06_Make.f k a0_0 l0_1 l1 a2 = some (r1, r2)) :
  Calls Try.prog 42 #[.agg #[.int .i64 a0_0, .slice A0_1 l0_1.length c0_1], .slice A1 l1.length c1, .int .i64 a2] w fun e w' => ∃ v0_ : Value, e = .returned (.tuple #[v0_, .int .i64 r2]) ∧ Kd.R (Kd.int .i64) 3 w' w.heap.size (fun _ => True) v0_ r1 ∧ Below w.heap.size w w' := by
 have hu24 := Try.underlying24
 have HR0_1 := Aside0.mk hr0_1
 have HC0_1 := Aside0.mk hc0_1
 clear hr0_1 hc0_1
 have HR1 := Aside0.mk hr1
 have HC1 := Aside0.mk hc1
 clear hr1 hc1
 have HB := Aside0.mk (Below.refl w.heap.size w)
 have H : ((dropperref06_After.f k a0_0 l0_1 l1 (([a2] : List Int))).bind fun bt489 => (some (bt489.1, bt489.2))) = some (r1, r2) := h
 clear h
 obtain ⟨y486, hy486⟩ : ∃ y_ : List Int, y_ = (([a2] : List Int)) := ⟨_, rfl⟩
 replace H : ((dropperref06_After.f k a0_0 l0_1 l1 y486).bind fun bt489 => (some (bt489.1, bt489.2))) = some (r1, r2) := by first | (rw [hy486]; with_reducible exact H) | (have H2_ := (Option.bind_some _ _).symm.trans H; rw [hy486]; with_reducible exact H2_) | (have H2_ := (Option.bind_some _ _).symm.trans H; with_reducible exact H2_) | with_reducible exact H | (rw [hy486]; exact H) | exact H
 have Ny486 := Aside0.mk hy486
 clear hy486
 replace H := Option.bind_eq_some_iff.mp H
 obtain ⟨⟨t489, t492⟩, A40, H⟩ := H
 try dsimp only at H
 have A4 := Aside0.mk A40
 clear A40
 simp only [Option.some.injEq, Prod.mk.injEq] at H
 obtain ⟨rfl, rfl⟩ := H
 go_enter Try.func42, Try.ntmps42
 go_wp2_with (first | ((with_reducible refine gate_dst (N := 3) rfl ?_); refine box_event ?hg (N := 3) ?hd (cs := #[.int .i64 a0_0, .slice A0_1 l0_1.length c0_1]) (t := 24) ?hr ?_; (case hd => rfl); (case hg => rfl); (case hr => first | (go_simp; done) | (go_simp; rfl)); intro gb485 hg w5 hbox hb; have BK485 := Aside0.mk (hbox); have GW485 := bsz (w := w) hg; have GE485 := GW485; replace HB := Aside0.mk (below_step bel hb); clear hb hbox hg; obtain ⟨hcz6_0, hcz6_1⟩ := bc2 BK485.out) | ((with_reducible refine gate_dst (N := 11) rfl ?_); refine Kd.R_lit (Kd.int .i64) _ 3 ?hg (N := 11) ?hd (xs := ([a2] : List Int)) (inner := [.int .i64 a2]) (ok := fun _ => True) (okp := fun _ => True) ?hr ?hp (fun _ hk => hk) trivial (Below.refl _ _) (Nat.le_refl _) (by simp) ?_; (case hd => rfl); (case hg => rfl); (case hr => first | (go_simp; done) | (go_simp; rfl)); (case hp => exact (Reps.one (show Kd.M (Kd.int .i64) _ _ _ a2 [.int .i64 a2] from rfl) (Reps.none _ _))); intro v487 w7 ho8 hb hg_ hnew_; clear hg_ hnew_; (first | rw [← Ny486.out] at ho8 | (simp only [Int.reduceToNat] at ho8; rw [← Ny486.out] at ho8)); have HO488 := Aside0.mk (Kd.R_lower ho8 (below_size bel)); replace BK485 := Aside0.mk (blk_below (g := gb485) blkz hb); replace HB := Aside0.mk (below_step bel hb); clear hb ho8; obtain ⟨Ao9, co9, eo9⟩ := Kd.R_slice HO488.out; subst eo9) | ((with_reducible refine gate_callee (f := 44) rfl ?_); refine goesL_ (some 12) rfl rfl Try.func44 (by kernel_rfl) rfl #[.agg #[.int .i64 a0_0, .slice A0_1 l0_1.length c0_1], .slice A1 l1.length c1, .slice Ao9 y486.length co9] rfl mapz ?_; (with_reducible refine (dropperref06_After.calls k a0_0 _ _ l0_1 (fun k_ => k_ < w.heap.size) _ _ l1 _ _ y486 t489 t492 _ (cbz HR0_1) HC0_1.out ?side3 ?side4 ?side5 A4.out).mono ?_); (case side3 => exact Kd.V_mk HC1.out (Kd.F_below (Kd.C_F (Kd.heap_int .i64) HR1.out) bel)); (case side4 => repeat (first | exact (Kd.R_reads' HO488.out).2.2 | (with_reducible refine Kd.C_alloc ?_ _) | (with_reducible refine Kd.C_drewN ?_ _) | (with_reducible refine Kd.C_drew ?_))); (case side5 => exact (Kd.R_reads' HO488.out).2.1); rintro e w10 ⟨v490, rfl, ho0, hb⟩; refine ⟨_, rfl, ?_⟩; have HO491 := Aside0.mk (Kd.R_lower (Kd.R_new' (Kd.R_mono (ok' := fun k_ => True) ho0 (fun _ hk_ => trivial)) (Kd.R_lt (ownx HO488))) (below_size bel)); replace HO488 := Aside0.mk (Kd.R_elder' (ownx HO488) (Kd.R_base ho0) hb); replace BK485 := Aside0.mk (blk_below (g := gb485) blkz hb); replace HB := Aside0.mk (below_step bel hb); (try clear hb); (try clear hb2); (try clear hk); (try clear hi); (try clear ho0)))
 go_ret2
 exact ⟨_, ezz, by (with_reducible repeat (first | apply Kd.R_alloc | apply Kd.R_drewN | apply Kd.R_drew)); exact Kd.R_mono HO491.out (fun _ hk => trivial), bel⟩

/-! ### key_After: function 28 -/
def key_After.l0 : Nat → List Int → Int → Int → Int → List (S64) → Int → Int → Int → Int → Int → Int → Option (List Int × Int)
 | 0, _, _, _, _, _, _, _, _, _, _, _ => none
 | k + 1, x38, x39, x40, x521000, x521001, x533000, x533001, x533002, x533003, x533004, x533005 => if x40 < x39 then (if 0 ≤ x40 then (if x40 < (x38.length : Int) then (if 0 ≤ (rd x38 x40) then (if (rd x38 x40) < (x521001.length : Int) then ((key_keys_made.f x533000 x533001 x533002 x533003 x533004 x533005 ((rd_T64 x521001 (rd x38 x40)).f0) ((rd_T64 x521001 (rd x38 x40)).f1)).bind fun bt535 => (if bt535.2.2.2.2.2.2 = true then (key_After.l0 k x38 x39 (wrap64 (x40 + 1)) x521000 x521001 bt535.1 bt535.2.1 bt535.2.2.1 bt535.2.2.2.1 bt535.2.2.2.2.1 bt535.2.2.2.2.2.1) else (some (([] : List Int), 5)))) else (none)) else (none)) else (none)) else (none)) else ((key_keys_list.f x533000 x533001 x533002 x533003 x533004 x533005 x521000).bind fun t542 => (some (t542, 0)))
def key_After.f (k : Nat) (a0_0 : Int) (l0_1 : List (S64)) (l1 : List Int) (l2 : List Int) : Option (List Int × Int) := (key_open.f a0_0 l0_1 (([l1] : List (List Int)))).bind fun t524 => (if t524 = 0 then (if (l2.length : Int) > 1000 then (some (([] : List Int), 2)) else ((key_isList.f l2 (l2.length : Int) 0 (wrap64 ((l0_1.length : Int) - 1))).bind fun t525 => (if t525 = true then ((key_keysOf.f l1).bind fun bt526 => (key_After.l0 k l2 (l2.length : Int) 0 a0_0 l0_1 bt526.1 bt526.2.1 bt526.2.2.1 bt526.2.2.2.1 bt526.2.2.2.2.1 bt526.2.2.2.2.2)) else (some (([] : List Int), 2))))) else (some (([] : List Int), t524)))
def key_After.T11 : Bool × List (List Nat × List Nat) := (true, [([], []), ([], []), ([1], [1]), ([], []), ([2, 3], [2, 3]), ([4], [4]), ([0, 5], [0, 5]), ([6], [6]), ([7], [7]), ([7], [7]), ([8, 6, 0, 1, 2, 3, 4, 5, 6, 7, 8], [8]), ([9, 10, 0, 1, 2, 3, 4, 5, 6, 7, 8, 9, 10], [9])])
def key_After.B11 : List Nat := [0, 0, 2, 0, 14, 30, 63, 127, 255, 255, 511, 2047]
theorem key_After.tab11 : rtab .any (opsOf Try.f28 11) = key_After.T11 := by kernel_rfl
theorem key_After.bits11 : waitsOk key_After.T11.2 key_After.B11 = true := by kernel_rfl
set_option maxHeartbeats 8000000 in
set_option maxRecDepth 100000 in
theorem key_After.calls (k : Nat) (a0_0 : Int) (A0_1 : Option Addr) (c0_1 : Nat) (l0_1 : List (S64)) (P1_ : Nat → Prop) (A1 : Option Addr) (c1 : Nat) (l1 : List Int) (A2 : Option Addr) (c2 : Nat) (l2 : List Int) (r1 : List Int) (r2 : Int) (w : World) (hr0_1 : Kd.C k64 w A0_1 l0_1.length l0_1) (hc0_1 : l0_1.length ≤ c0_1) (hs1 : Kd.V (Kd.int .i64) 3 w w.heap.size (fun k_ => P1_ k_) (.slice A1 l1.length c1) l1) (hr2 : Kd.C (Kd.int .i64) w A2 l2.length l2) (hc2 : l2.length ≤ c2) (h : key_After.f k a0_0 l0_1 l1 l2 = some (r1, r2)) :
  Calls Try.prog 28 #[.agg #[.int .i64 a0_0, .slice A0_1 l0_1.length c0_1], .slice A1 l1.length c1, .slice A2 l2.length c2] w fun e w' => ∃ v0_ : Value, e = .returned (.tuple #[v0_, .int .i64 r2]) ∧ Kd.R (Kd.int .i64) 3 w' w.heap.size (fun k_ => (w.heap.size ≤ k_)) v0_ r1 ∧ Below w.heap.size w w' := by
 have hu24 := Try.underlying24
 have hu70 := Try.underlying70
 have hu64 := Try.underlying64
 have HR0_1 := Aside0.mk hr0_1
 have HC0_1 := Aside0.mk hc0_1
 clear hr0_1 hc0_1
 have HO1 := Aside0.mk (show Kd.V (Kd.int .i64) 3 w w.heap.size (fun k_ => (P1_ k_ ∨ w.heap.size ≤ k_)) (.slice A1 l1.length c1) l1 from Kd.V_mono hs1 (fun k_ hk => .inl hk))
 have HR2 := Aside0.mk hr2
 have HC2 := Aside0.mk hc2
 clear hr2 hc2
 have HB := Aside0.mk (Below.refl w.heap.size w)
 have H : ((key_open.f a0_0 l0_1 (([l1] : List (List Int)))).bind fun t524 => (if t524 = 0 then (if (l2.length : Int) > 1000 then (some (([] : List Int), 2)) else ((key_isList.f l2 (l2.length : Int) 0 (wrap64 ((l0_1.length : Int) - 1))).bind fun t525 => (if t525 = true then ((key_keysOf.f l1).bind fun bt526 => (key_After.l0 k l2 (l2.length : Int) 0 a0_0 l0_1 bt526.1 bt526.2.1 bt526.2.2.1 bt526.2.2.2.1 bt526.2.2.2.2.1 bt526.2.2.2.2.2)) else (some (([] : List Int), 2))))) else (some (([] : List Int), t524)))) = some (r1, r2) := h
 clear h
 obtain ⟨y521, hy521⟩ : ∃ y_ : List (List Int), y_ = (([l1] : List (List Int))) := ⟨_, rfl⟩
 replace H : ((key_open.f a0_0 l0_1 y521).bind fun t524 => (if t524 = 0 then (if (l2.length : Int) > 1000 then (some (([] : List Int), 2)) else ((key_isList.f l2 (l2.length : Int) 0 (wrap64 ((l0_1.length : Int) - 1))).bind fun t525 => (if t525 = true then ((key_keysOf.f l1).bind fun bt526 => (key_After.l0 k l2 (l2.length : Int) 0 a0_0 l0_1 bt526.1 bt526.2.1 bt526.2.2.1 bt526.2.2.2.1 bt526.2.2.2.2.1 bt526.2.2.2.2.2)) else (some (([] : List Int), 2))))) else (some (([] : List Int), t524)))) = some (r1, r2) := by first | (rw [hy521]; with_reducible exact H) | (have H2_ := (Option.bind_some _ _).symm.trans H; rw [hy521]; with_reducible exact H2_) | (have H2_ := (Option.bind_some _ _).symm.trans H; with_reducible exact H2_) | with_reducible exact H | (rw [hy521]; exact H) | exact H
 have Ny521 := Aside0.mk hy521
 clear hy521
 replace H := Option.bind_eq_some_iff.mp H
 obtain ⟨t524, A40, H⟩ := H
 try dsimp only at H
 have A4 := Aside0.mk A40
 clear A40
 by_cases c5 : t524 = 0
 ·
  rw [if_pos c5] at H
  have c5b0 : (t524 == 0) = true := beq_iff_eq.mpr c5
  have c5b1 : (t524 != 0) = false := bne_eq_false_iff_eq.mpr c5
  clear c5
  by_cases c6 : (l2.length : Int) > 1000
  ·
   rw [if_pos c6] at H
   have c6b0 : decide (1000 < (l2.length : Int)) = true := decide_eq_true c6
   have c6b1 : decide (1000 < l2.length) = true := decide_eq_true (by omega)
   clear c6
   simp only [Option.some.injEq, Prod.mk.injEq] at H
   obtain ⟨rfl, rfl⟩ := H
   go_enter Try.func28, Try.ntmps28
   go_wp2_with (first | ((with_reducible refine gate_dst (N := 3) rfl ?_); (try (refine gate_guard (by rfl) ?_; dsimp only)); refine box_event ?hg (N := 3) ?hd (cs := #[.int .i64 a0_0, .slice A0_1 l0_1.length c0_1]) (t := 24) ?hr ?_; (case hd => rfl); (case hg => rfl); (case hr => first | (go_simp; done) | (go_simp; rfl)); intro gb520 hg w7 hbox hb; have BK520 := Aside0.mk (hbox); have GW520 := bsz (w := w) hg; have GE520 := GW520; replace HO1 := Aside0.mk (Kd.V_below (Kd.V_elderB (by (with_reducible repeat (first | apply Kd.V_alloc | apply Kd.V_drewN | apply Kd.V_drew)); exact HO1.out) gb520 (Nat.le_of_eq hg.symm)) hb); replace HB := Aside0.mk (below_step bel hb); clear hb hbox hg; obtain ⟨hcz8_0, hcz8_1⟩ := bc2 BK520.out) | ((with_reducible refine gate_dst (N := 15) rfl ?_); (try (refine gate_guard (by rfl) ?_; dsimp only)); refine Kd.N_lit (Kd.slice 3 (Kd.int .i64)) _ 25 ?hg (N' := 15) ?hd (xs := ([l1] : List (List Int))) (inner := [.slice A1 l1.length c1]) (ok := (fun k_ => (P1_ k_ ∨ w.heap.size ≤ k_) ∧ k_ ≠ gb520)) (okp := (fun k_ => (P1_ k_ ∨ w.heap.size ≤ k_) ∧ k_ ≠ gb520)) ?hr ?hp (fun _ hk => hk) ((show ∀ k_, w7.heap.size ≤ k_ → (fun k_ => (P1_ k_ ∨ w.heap.size ≤ k_) ∧ k_ ≠ gb520) k_ from fun k_ hk => ⟨(.inr (Nat.le_trans (below_size bel) hk)), Kd.freshB (g := gb520) (o := .cells #[.int .i64 a0_0, .slice A0_1 l0_1.length c0_1] 24 (0, 0)) blkz k_ hk⟩) _ (Nat.le_refl _)) (Below.refl _ _) (Nat.le_refl _) (by simp) ?_; (case hd => rfl); (case hg => rfl); (case hr => first | (go_simp; done) | (go_simp; rfl)); (case hp => exact (Reps.one (show Kd.FK (Kd.slice 3 (Kd.int .i64)) _ _ l1 [.slice A1 l1.length c1] from (Kd.FK_slice_mk (Kd.V_reads' (Kd.V_mono (ok' := (fun k_ => (P1_ k_ ∨ w.heap.size ≤ k_) ∧ k_ ≠ gb520)) (HO1.out) (fun k_ hk => ⟨hk.1, hk.2⟩))).2.1 (Kd.V_F (Kd.V_mono (ok' := (fun k_ => (P1_ k_ ∨ w.heap.size ≤ k_) ∧ k_ ≠ gb520)) (HO1.out) (fun k_ hk => ⟨hk.1, hk.2⟩))))) (Reps.none _ _))); intro v522 w9 ho10 hb hg_ hnew_; clear hg_ hnew_; (first | rw [← Ny521.out] at ho10 | (simp only [Int.reduceToNat] at ho10; rw [← Ny521.out] at ho10)); have HO523 := Aside0.mk (Kd.N_lower ho10 (below_size bel)); replace HO1 := Aside0.mk (Kd.V_elder' (by (with_reducible repeat (first | apply Kd.V_alloc | apply Kd.V_drewN | apply Kd.V_drew)); exact HO1.out) (Kd.N_base ho10) hb); replace BK520 := Aside0.mk (blk_below (g := gb520) blkz hb); replace HB := Aside0.mk (below_step bel hb); clear hb ho10; obtain ⟨Ao11, co11, eo11⟩ := Kd.N_slice HO523.out; subst eo11) | ((with_reducible refine gate_callee (f := 68) rfl ?_); refine goesL_ (some 16) rfl rfl Try.func68 (by kernel_rfl) rfl #[.agg #[.int .i64 a0_0, .slice A0_1 l0_1.length c0_1], .slice Ao11 y521.length co11] rfl mapz ?_; (with_reducible refine (key_open.calls a0_0 _ _ l0_1 _ _ y521 t524 _ (cbz HR0_1) HC0_1.out ?side3 ?side4 A4.out).mono ?_); (case side3 => repeat (first | exact (Kd.N_reads' HO523.out).2.2 | (with_reducible refine Kd.C_alloc ?_ _) | (with_reducible refine Kd.C_drewN ?_ _) | (with_reducible refine Kd.C_drew ?_))); (case side4 => exact (Kd.N_reads' HO523.out).2.1); rintro e w12 ⟨rfl, hb⟩; refine ⟨_, rfl, ?_⟩; replace HO1 := Aside0.mk (Kd.V_below (by (with_reducible repeat (first | apply Kd.V_alloc | apply Kd.V_drewN | apply Kd.V_drew)); exact HO1.out) hb); replace HO523 := Aside0.mk (Kd.N_below (by (with_reducible repeat (first | apply Kd.N_alloc | apply Kd.N_drewN | apply Kd.N_drew)); exact HO523.out) hb); replace BK520 := Aside0.mk (blk_below (g := gb520) blkz hb); replace HB := Aside0.mk (below_step bel hb); clear hb))
   go_ret2
   exact ⟨_, ezz, by first | exact Kd.R_nil _ _ _ _ _ | exact Kd.N_nil _ _ _ _ _ | exact Kd.V_nil _ _ _ _ _ | exact Kd.Q_nil _ _ _ _ _ | exact Kd.S_nil _ _ _ _ _, bel⟩
  ·
   rw [if_neg c6] at H
   have c6b0 : decide (1000 < (l2.length : Int)) = false := decide_eq_false c6
   have c6b1 : decide (1000 < l2.length) = false := decide_eq_false (by omega)
   clear c6
   replace H := Option.bind_eq_some_iff.mp H
   obtain ⟨t525, A130, H⟩ := H
   try dsimp only at H
   have A13 := Aside0.mk A130
   clear A130
   by_cases c14 : t525 = true
   ·
    subst c14
    rw [if_pos rfl] at H
    replace H := Option.bind_eq_some_iff.mp H
    obtain ⟨⟨t526, t527, t528, t529, t530, t531⟩, A150, H⟩ := H
    try dsimp only at H
    have A15 := Aside0.mk A150
    clear A150
    have H' := Aside0.mk H
    clear H
    go_enter Try.func28, Try.ntmps28
    go_wp2_with (first | ((with_reducible refine gate_dst (N := 3) rfl ?_); (try (refine gate_guard (by rfl) ?_; dsimp only)); refine box_event ?hg (N := 3) ?hd (cs := #[.int .i64 a0_0, .slice A0_1 l0_1.length c0_1]) (t := 24) ?hr ?_; (case hd => rfl); (case hg => rfl); (case hr => first | (go_simp; done) | (go_simp; rfl)); intro gb520 hg w16 hbox hb; have BK520 := Aside0.mk (hbox); have GW520 := bsz (w := w) hg; have GE520 := GW520; replace HO1 := Aside0.mk (Kd.V_below (Kd.V_elderB (by (with_reducible repeat (first | apply Kd.V_alloc | apply Kd.V_drewN | apply Kd.V_drew)); exact HO1.out) gb520 (Nat.le_of_eq hg.symm)) hb); replace HB := Aside0.mk (below_step bel hb); clear hb hbox hg; obtain ⟨hcz17_0, hcz17_1⟩ := bc2 BK520.out) | ((with_reducible refine gate_dst (N := 15) rfl ?_); (try (refine gate_guard (by rfl) ?_; dsimp only)); refine Kd.N_lit (Kd.slice 3 (Kd.int .i64)) _ 25 ?hg (N' := 15) ?hd (xs := ([l1] : List (List Int))) (inner := [.slice A1 l1.length c1]) (ok := (fun k_ => (P1_ k_ ∨ w.heap.size ≤ k_) ∧ k_ ≠ gb520)) (okp := (fun k_ => (P1_ k_ ∨ w.heap.size ≤ k_) ∧ k_ ≠ gb520)) ?hr ?hp (fun _ hk => hk) ((show ∀ k_, w16.heap.size ≤ k_ → (fun k_ => (P1_ k_ ∨ w.heap.size ≤ k_) ∧ k_ ≠ gb520) k_ from fun k_ hk => ⟨(.inr (Nat.le_trans (below_size bel) hk)), Kd.freshB (g := gb520) (o := .cells #[.int .i64 a0_0, .slice A0_1 l0_1.length c0_1] 24 (0, 0)) blkz k_ hk⟩) _ (Nat.le_refl _)) (Below.refl _ _) (Nat.le_refl _) (by simp) ?_; (case hd => rfl); (case hg => rfl); (case hr => first | (go_simp; done) | (go_simp; rfl)); (case hp => exact (Reps.one (show Kd.FK (Kd.slice 3 (Kd.int .i64)) _ _ l1 [.slice A1 l1.length c1] from (Kd.FK_slice_mk (Kd.V_reads' (Kd.V_mono (ok' := (fun k_ => (P1_ k_ ∨ w.heap.size ≤ k_) ∧ k_ ≠ gb520)) (HO1.out) (fun k_ hk => ⟨hk.1, hk.2⟩))).2.1 (Kd.V_F (Kd.V_mono (ok' := (fun k_ => (P1_ k_ ∨ w.heap.size ≤ k_) ∧ k_ ≠ gb520)) (HO1.out) (fun k_ hk => ⟨hk.1, hk.2⟩))))) (Reps.none _ _))); intro v522 w18 ho19 hb hg_ hnew_; clear hg_ hnew_; (first | rw [← Ny521.out] at ho19 | (simp only [Int.reduceToNat] at ho19; rw [← Ny521.out] at ho19)); have HO523 := Aside0.mk (Kd.N_lower ho19 (below_size bel)); replace HO1 := Aside0.mk (Kd.V_elder' (by (with_reducible repeat (first | apply Kd.V_alloc | apply Kd.V_drewN | apply Kd.V_drew)); exact HO1.out) (Kd.N_base ho19) hb); replace BK520 := Aside0.mk (blk_below (g := gb520) blkz hb); replace HB := Aside0.mk (below_step bel hb); clear hb ho19; obtain ⟨Ao20, co20, eo20⟩ := Kd.N_slice HO523.out; subst eo20) | ((with_reducible refine gate_callee (f := 68) rfl ?_); refine goesL_ (some 16) rfl rfl Try.func68 (by kernel_rfl) rfl #[.agg #[.int .i64 a0_0, .slice A0_1 l0_1.length c0_1], .slice Ao20 y521.length co20] rfl mapz ?_; (with_reducible refine (key_open.calls a0_0 _ _ l0_1 _ _ y521 t524 _ (cbz HR0_1) HC0_1.out ?side3 ?side4 A4.out).mono ?_); (case side3 => repeat (first | exact (Kd.N_reads' HO523.out).2.2 | (with_reducible refine Kd.C_alloc ?_ _) | (with_reducible refine Kd.C_drewN ?_ _) | (with_reducible refine Kd.C_drew ?_))); (case side4 => exact (Kd.N_reads' HO523.out).2.1); rintro e w21 ⟨rfl, hb⟩; refine ⟨_, rfl, ?_⟩; replace HO1 := Aside0.mk (Kd.V_below (by (with_reducible repeat (first | apply Kd.V_alloc | apply Kd.V_drewN | apply Kd.V_drew)); exact HO1.out) hb); replace HO523 := Aside0.mk (Kd.N_below (by (with_reducible repeat (first | apply Kd.N_alloc | apply Kd.N_drewN | apply Kd.N_drew)); exact HO523.out) hb); replace BK520 := Aside0.mk (blk_below (g := gb520) blkz hb); replace HB := Aside0.mk (below_step bel hb); clear hb; obtain ⟨hcz22_0, hcz22_1⟩ := bc2 BK520.out) | (go_at_call 69; (with_reducible refine (key_isList.calls _ _ l2 (l2.length : Int) 0 (wrap64 ((l0_1.length : Int) - 1)) true _ (cbz HR2) HC2.out A13.out).mono ?_); rintro e w23 ⟨rfl, hb⟩; replace HO1 := Aside0.mk (Kd.V_below (by (with_reducible repeat (first | apply Kd.V_alloc | apply Kd.V_drewN | apply Kd.V_drew)); exact HO1.out) hb); replace HO523 := Aside0.mk (Kd.N_below (by (with_reducible repeat (first | apply Kd.N_alloc | apply Kd.N_drewN | apply Kd.N_drew)); exact HO523.out) hb); replace BK520 := Aside0.mk (blk_below (g := gb520) blkz hb); replace HB := Aside0.mk (below_step bel hb); clear hb) | ((with_reducible refine gate_callee (f := 61) rfl ?_); refine goesL_ (some 37) rfl rfl Try.func61 (by kernel_rfl) rfl #[.slice A1 l1.length c1] rfl mapz ?_; (with_reducible refine (key_keysOf.calls _ _ l1 t526 t527 t528 t529 t530 t531 _ ?side1 ?side2 A15.out).mono ?_); (case side1 => repeat (first | exact (Kd.V_reads' HO1.out).2.2 | (with_reducible refine Kd.C_alloc ?_ _) | (with_reducible refine Kd.C_drewN ?_ _) | (with_reducible refine Kd.C_drew ?_))); (case side2 => exact (Kd.V_reads' HO1.out).2.1); rintro e w24 ⟨rfl, hb⟩; refine ⟨_, rfl, ?_⟩; replace HO1 := Aside0.mk (Kd.V_below (by (with_reducible repeat (first | apply Kd.V_alloc | apply Kd.V_drewN | apply Kd.V_drew)); exact HO1.out) hb); replace HO523 := Aside0.mk (Kd.N_below (by (with_reducible repeat (first | apply Kd.N_alloc | apply Kd.N_drewN | apply Kd.N_drew)); exact HO523.out) hb); replace BK520 := Aside0.mk (blk_below (g := gb520) blkz hb); replace HB := Aside0.mk (below_step bel hb); clear hb) | ((with_reducible refine gate_dst (N := 9) rfl ?_); (try (refine gate_guard (by rfl) ?_; dsimp only)); refine box_event ?hg (N := 9) ?hd (cs := #[.int .i64 0, .int .i64 0, .int .i64 0, .int .i64 0, .int .i64 0, .int .i64 0]) (t := 70) ?hr ?_; (case hd => rfl); (case hg => rfl); (case hr => first | (go_simp; done) | (go_simp; rfl)); intro gb532 hg w25 hbox hb; have BK532 := Aside0.mk (hbox); have GW532 := bsz (w := w) hg; have GE532 := GW532; have NB520_532 := neL (g := gb520) hg; have NB532_520 := neR (g := gb520) hg; replace HO1 := Aside0.mk (Kd.V_below (Kd.V_elderB (by (with_reducible repeat (first | apply Kd.V_alloc | apply Kd.V_drewN | apply Kd.V_drew)); exact HO1.out) gb532 (Nat.le_of_eq hg.symm)) hb); replace HO523 := Aside0.mk (Kd.N_below (Kd.N_elderB (by (with_reducible repeat (first | apply Kd.N_alloc | apply Kd.N_drewN | apply Kd.N_drew)); exact HO523.out) gb532 (Nat.le_of_eq hg.symm)) hb); replace BK520 := Aside0.mk (blk_below (g := gb520) blkz hb); replace HB := Aside0.mk (below_step bel hb); clear hb hbox hg; have hnb26 := NB532_520.out; have hnc26 := NB520_532.out; obtain ⟨hcz27_0, hcz27_1, hcz27_2, hcz27_3, hcz27_4, hcz27_5⟩ := bc6 BK532.out; obtain ⟨hfz27_0, hfz27_1, hfz27_2, hfz27_3, hfz27_4, hfz27_5⟩ := bf6 BK532.out))
    go_loopg [40] k (fun kq v40 w' => ∃ (x40_1 : Int) (x533000_1 : Int) (x533001_1 : Int) (x533002_1 : Int) (x533003_1 : Int) (x533004_1 : Int) (x533005_1 : Int), v40 = .int .i64 x40_1 ∧ Aside0 (key_After.l0 kq l2 (l2.length : Int) x40_1 a0_0 l0_1 x533000_1 x533001_1 x533002_1 x533003_1 x533004_1 x533005_1 = some (r1, r2)) ∧ Aside0 (kq ≤ k) ∧ Aside0 (w'.heap[gb520]? = some (.cells #[.int .i64 a0_0, (.slice A0_1 l0_1.length c0_1)] 24 (0, 0))) ∧ Aside0 (w'.heap[gb532]? = some (.cells #[.int .i64 x533000_1, .int .i64 x533001_1, .int .i64 x533002_1, .int .i64 x533003_1, .int .i64 x533004_1, .int .i64 x533005_1] 70 (0, 0))) ∧ Aside0 (Below w.heap.size w w'))
    case atStart => exact ⟨(0), (t526), (t527), (t528), (t529), (t530), (t531), rsz, H', ⟨Nat.le_refl _⟩, ⟨by (with_reducible repeat (first | refine blk_drewN ?_ _ | refine blk_drew ?_ | refine blk_alloc ?_ _)); refine blk_far ?_ NB520_532.out _; (with_reducible repeat (first | refine blk_drewN ?_ _ | refine blk_drew ?_ | refine blk_alloc ?_ _)); refine blk_far ?_ NB520_532.out _; (with_reducible repeat (first | refine blk_drewN ?_ _ | refine blk_drew ?_ | refine blk_alloc ?_ _)); refine blk_far ?_ NB520_532.out _; (with_reducible repeat (first | refine blk_drewN ?_ _ | refine blk_drew ?_ | refine blk_alloc ?_ _)); refine blk_far ?_ NB520_532.out _; (with_reducible repeat (first | refine blk_drewN ?_ _ | refine blk_drew ?_ | refine blk_alloc ?_ _)); refine blk_far ?_ NB520_532.out _; (with_reducible repeat (first | refine blk_drewN ?_ _ | refine blk_drew ?_ | refine blk_alloc ?_ _)); refine blk_far ?_ NB520_532.out _; (with_reducible repeat (first | refine blk_drewN ?_ _ | refine blk_drew ?_ | refine blk_alloc ?_ _)); exact BK520.out⟩, ⟨by (with_reducible repeat (first | refine blk_drewN ?_ _ | refine blk_drew ?_ | refine blk_alloc ?_ _)); refine blk_put (cs := #[.int .i64 t526, .int .i64 t527, .int .i64 t528, .int .i64 t529, .int .i64 t530, .int .i64 0]) ?_ 5 _ rfl; (with_reducible repeat (first | refine blk_drewN ?_ _ | refine blk_drew ?_ | refine blk_alloc ?_ _)); refine blk_put (cs := #[.int .i64 t526, .int .i64 t527, .int .i64 t528, .int .i64 t529, .int .i64 0, .int .i64 0]) ?_ 4 _ rfl; (with_reducible repeat (first | refine blk_drewN ?_ _ | refine blk_drew ?_ | refine blk_alloc ?_ _)); refine blk_put (cs := #[.int .i64 t526, .int .i64 t527, .int .i64 t528, .int .i64 0, .int .i64 0, .int .i64 0]) ?_ 3 _ rfl; (with_reducible repeat (first | refine blk_drewN ?_ _ | refine blk_drew ?_ | refine blk_alloc ?_ _)); refine blk_put (cs := #[.int .i64 t526, .int .i64 t527, .int .i64 0, .int .i64 0, .int .i64 0, .int .i64 0]) ?_ 2 _ rfl; (with_reducible repeat (first | refine blk_drewN ?_ _ | refine blk_drew ?_ | refine blk_alloc ?_ _)); refine blk_put (cs := #[.int .i64 t526, .int .i64 0, .int .i64 0, .int .i64 0, .int .i64 0, .int .i64 0]) ?_ 1 _ rfl; (with_reducible repeat (first | refine blk_drewN ?_ _ | refine blk_drew ?_ | refine blk_alloc ?_ _)); refine blk_put (cs := #[.int .i64 0, .int .i64 0, .int .i64 0, .int .i64 0, .int .i64 0, .int .i64 0]) ?_ 0 _ rfl; (with_reducible repeat (first | refine blk_drewN ?_ _ | refine blk_drew ?_ | refine blk_alloc ?_ _)); exact BK532.out⟩, ⟨bel⟩⟩
    case round =>
     clear H'
     (try clear c1); (try clear c2); (try clear p2); (try clear c5); (try clear c5b0); (try clear c5b1); (try clear c6); (try clear c6b0); (try clear c6b1); (try clear p6); (try clear c14); (try clear c26); (try clear hcz17_0); (try clear hcz17_1); (try clear hcz22_0); (try clear hcz22_1); (try clear hcz27_0); (try clear hcz27_1); (try clear hcz27_2); (try clear hcz27_3); (try clear hcz27_4); (try clear hcz27_5); (try clear hcz8_0); (try clear hcz8_1); (try clear hfz17_0); (try clear hfz17_1); (try clear hfz22_0); (try clear hfz22_1); (try clear hfz27_0); (try clear hfz27_1); (try clear hfz27_2); (try clear hfz27_3); (try clear hfz27_4); (try clear hfz27_5); (try clear hfz8_0); (try clear hfz8_1)
     obtain ⟨x40_1, x533000_1, x533001_1, x533002_1, x533003_1, x533004_1, x533005_1, rfl, HA, HK1, BK520, BK532, HB⟩ := hrel
     cases gk with
     | zero => exact absurd HA.out (by simp [key_After.l0])
     | succ k1 =>
      have H := HA.out
      clear HA
      simp only [key_After.l0] at H
      by_cases c28 : x40_1 < (l2.length : Int)
      ·
       rw [if_pos c28] at H
       have c28b0 : decide (x40_1 < (l2.length : Int)) = true := decide_eq_true c28
       clear c28
       by_cases c29 : 0 ≤ x40_1
       ·
        rw [if_pos c29] at H
        have c29b0 : decide (0 ≤ x40_1) = true := decide_eq_true c29
        clear c29
        by_cases c30 : x40_1 < (l2.length : Int)
        ·
         rw [if_pos c30] at H
         have c30b0 : decide (x40_1 < (l2.length : Int)) = true := decide_eq_true c30
         clear c30
         by_cases c31 : 0 ≤ (rd l2 x40_1)
         ·
          rw [if_pos c31] at H
          have c31b0 : decide (0 ≤ (rd l2 x40_1)) = true := decide_eq_true c31
          clear c31
          by_cases c32 : (rd l2 x40_1) < (l0_1.length : Int)
          ·
           rw [if_pos c32] at H
           have c32b0 : decide ((rd l2 x40_1) < (l0_1.length : Int)) = true := decide_eq_true c32
           clear c32
           replace H := Option.bind_eq_some_iff.mp H
           obtain ⟨⟨t535, t536, t537, t538, t539, t540, t541⟩, A330, H⟩ := H
           try dsimp only at H
           have A33 := Aside0.mk A330
           clear A330
           by_cases c34 : t541 = true
           ·
            subst c34
            rw [if_pos rfl] at H
            have H' := Aside0.mk H
            clear H
            have p533 : 0 ≤ (x40_1 : Int) := of_decide_eq_true asz
            have q533 : x40_1 < (l2.length : Int) := of_decide_eq_true asz
            obtain ⟨ad533, e533, hx533_0⟩ := Kd.at_int HR2.out x40_1 p533 q533
            cases e533
            replace hx533_0 := (HB.out.cell (World.block_lt_of_cell? w _ hx533_0)).trans hx533_0
            replace p533 := eq_true p533
            replace q533 := eq_true q533
            try go_wp2
            have n0_ := Aside0.mk (blk_drew BK520.out)
            have n1_ := Aside0.mk (blk_drew BK532.out)
            have n2_ := Aside0.mk (below_drew1 HB.out)
            clear BK520
            clear BK532
            clear HB
            have BK520 := n0_
            have BK532 := n1_
            have HB := n2_
            clear n0_ n1_ n2_
            have p534 : 0 ≤ ((rd l2 x40_1) : Int) := of_decide_eq_true asz
            have q534 : (rd l2 x40_1) < (l0_1.length : Int) := of_decide_eq_true asz
            obtain ⟨ad534, A534_0, c534_0, A534_1, c534_1, e534, hx534_0, hx534_1, hl534_0, hi534_0, hl534_1, hi534_1⟩ := at_T64 HR0_1.out (rd l2 x40_1) p534 q534
            have hw534_1 := hx534_1
            have hw534_0 := hx534_0
            cases e534
            replace hx534_0 := (HB.out.cell (World.block_lt_of_cell? w _ hx534_0)).trans hx534_0
            replace hx534_1 := (HB.out.cell (World.block_lt_of_cell? w _ hx534_1)).trans hx534_1
            have HR534_0 := Aside0.mk hi534_0
            have HC534_0 := Aside0.mk hl534_0
            clear hi534_0 hl534_0
            have HR534_1 := Aside0.mk hi534_1
            have HC534_1 := Aside0.mk hl534_1
            clear hi534_1 hl534_1
            replace p534 := eq_true p534
            replace q534 := eq_true q534
            refine start_ (n := 12) (S := fun w' => w'.cell? ⟨gb532, 0, none⟩ = some (.int .i64 x533000_1) ∧ w'.cell? ⟨gb532, 1, none⟩ = some (.int .i64 x533001_1) ∧ w'.cell? ⟨gb532, 2, none⟩ = some (.int .i64 x533002_1) ∧ w'.cell? ⟨gb532, 3, none⟩ = some (.int .i64 x533003_1) ∧ w'.cell? ⟨gb532, 4, none⟩ = some (.int .i64 x533004_1) ∧ w'.cell? ⟨gb532, 5, none⟩ = some (.int .i64 x533005_1) ∧ w'.cell? ⟨gb520, 0, none⟩ = some (.int .i64 a0_0) ∧ w'.cell? ⟨gb520, 1, none⟩ = some (.slice (some ad534) l0_1.length c0_1) ∧ w'.cell? (ad534.add (((rd l2 x40_1)).toNat * 2)) = some (.slice A534_0 ((rd_T64 l0_1 (rd l2 x40_1)).f0).length c534_0) ∧ w'.cell? ⟨(ad534.add (((rd l2 x40_1)).toNat * 2)).block, (ad534.add (((rd l2 x40_1)).toNat * 2)).off + 1, none⟩ = some (.slice A534_1 ((rd_T64 l0_1 (rd l2 x40_1)).f1).length c534_1)) (ds := [10]) #[false, false, false, false, false, false, false, false, false, false, false, false] (by kernel_rfl) rfl rfl ⟨(blk_cell BK532.out 0).trans rfl, (blk_cell BK532.out 1).trans rfl, (blk_cell BK532.out 2).trans rfl, (blk_cell BK532.out 3).trans rfl, (blk_cell BK532.out 4).trans rfl, (blk_cell BK532.out 5).trans rfl, (blk_cell BK520.out 0).trans rfl, (blk_cell BK520.out 1).trans rfl, ((HB.out.cell (World.block_lt_of_cell? w _ hw534_0)).trans hw534_0), ((HB.out.cell (World.block_lt_of_cell? w _ hw534_1)).trans hw534_1)⟩ (fun hHeld => ?_); refine with_tabW key_After.tab11 key_After.bits11 (fun HT_ HW_ => ?_)
            generalize wr.drew = w35 at BK520 BK532 HB HR534_0 HR534_1 hx534_0 hx534_1 hHeld ⊢
            refine pst (i := 1) (N := some 46) (bz 12 2) (any_of HT_.out (by kernel_rfl)) ?_
            refine pst (i := 3) (N := some 48) (bz 12 10) (any_of HT_.out (by kernel_rfl)) ?_
            refine tst10 (i := 0) (N := some 45) (bz 12 11) (take_ofW HT_.out HW_.out (by kernel_rfl)) hHeld ?_
            refine tst10 (i := 2) (N := some 47) (bz 12 15) (take_ofW HT_.out HW_.out (by kernel_rfl)) hHeld ?_
            refine pst (i := 4) (N := some 49) (bz 12 31) (any_of HT_.out (by kernel_rfl)) ?_
            refine tst10 (i := 5) (N := some 50) (bz 12 63) (take_ofW HT_.out HW_.out (by kernel_rfl)) hHeld ?_
            refine one_ (i := 6) (N := some 51) #[true, true, true, true, true, true, true, false, false, false, false, false] rfl rfl (one_of HT_.out (by kernel_rfl)) (by decide) (fun K hK => ?_)
            refine goes_ Try.func70 (by kernel_rfl) rfl #[.agg #[.int .i64 x533000_1, .int .i64 x533001_1, .int .i64 x533002_1, .int .i64 x533003_1, .int .i64 x533004_1, .int .i64 x533005_1], .agg #[.slice A534_0 ((rd_T64 l0_1 (rd l2 x40_1)).f0).length c534_0, .slice A534_1 ((rd_T64 l0_1 (rd l2 x40_1)).f1).length c534_1]] (by rfl) rfl rfl mapz ?_
            with_reducible refine (key_keys_made.calls x533000_1 x533001_1 x533002_1 x533003_1 x533004_1 x533005_1 _ _ ((rd_T64 l0_1 (rd l2 x40_1)).f0) _ _ ((rd_T64 l0_1 (rd l2 x40_1)).f1) t535 t536 t537 t538 t539 t540 true _ ?side1 ?side2 ?side3 ?side4 A33.out).mono ?_
            (case side1 => exact cbz HR534_0)
            (case side2 => exact HC534_0.out)
            (case side3 => exact cbz HR534_1)
            (case side4 => exact HC534_1.out)
            rintro e w36 ⟨rfl, hb⟩
            refine ⟨_, rfl, ?_⟩
            have n0_ := Aside0.mk (blk_below (g := gb520) blkz hb)
            have n1_ := Aside0.mk (blk_below (g := gb532) blkz hb)
            have n2_ := Aside0.mk (below_step bel hb)
            clear BK520
            clear BK532
            clear HB
            have BK520 := n0_
            have BK532 := n1_
            have HB := n2_
            clear n0_ n1_ n2_
            (try clear hb)
            (try clear hb2)
            (try clear hk)
            (try clear hi)
            refine hK.out _ _ ⟨(blk_cell BK532.out 0).trans rfl, (blk_cell BK532.out 1).trans rfl, (blk_cell BK532.out 2).trans rfl, (blk_cell BK532.out 3).trans rfl, (blk_cell BK532.out 4).trans rfl, (blk_cell BK532.out 5).trans rfl, (blk_cell BK520.out 0).trans rfl, (blk_cell BK520.out 1).trans rfl, ((HB.out.cell (World.block_lt_of_cell? w _ hw534_0)).trans hw534_0), ((HB.out.cell (World.block_lt_of_cell? w _ hw534_1)).trans hw534_1)⟩ (fun hHeld => ?_)
            clear hK K
            refine norm_ (a' := ?_) ?_ ?_
            rotate_left
            ·
             show Act.put _ (some 51) _ = _
             simp only [Act.put, List.setIfInBounds_toArray, List.set_cons_zero, List.set_cons_succ, i64_w, i32_w]
             rfl
            refine pst (i := 7) (N := some 44) (bz 12 255) (any_of HT_.out (by kernel_rfl)) ?_
            refine pst (i := 8) (N := some 52) (bz 12 511) (any_of HT_.out (by kernel_rfl)) ?_
            refine pst (i := 9) (N := some 53) (bz 12 1023) (any_of HT_.out (by kernel_rfl)) ?_
            refine last_ (i := 10) (N := none) #[true, true, true, true, true, true, true, true, true, true, true, false] rfl rfl (one_of HT_.out (by kernel_rfl)) (by decide) (fun K hK => ?_)
            have hs37 : w36.cell? ⟨gb532, 0, none⟩ = some (.int .i64 x533000_1) := (blk_cell BK532.out 0).trans rfl
            have hfs37 := blk_frozen BK532.out 0
            have hns37_0 := NB520_532.out
            have hms37_0 := NB532_520.out
            have hs38 : w36.cell? ⟨gb532, 1, none⟩ = some (.int .i64 x533001_1) := (blk_cell BK532.out 1).trans rfl
            have hfs38 := blk_frozen BK532.out 1
            have hns38_0 := NB520_532.out
            have hms38_0 := NB532_520.out
            have hs39 : w36.cell? ⟨gb532, 2, none⟩ = some (.int .i64 x533002_1) := (blk_cell BK532.out 2).trans rfl
            have hfs39 := blk_frozen BK532.out 2
            have hns39_0 := NB520_532.out
            have hms39_0 := NB532_520.out
            have hs40 : w36.cell? ⟨gb532, 3, none⟩ = some (.int .i64 x533003_1) := (blk_cell BK532.out 3).trans rfl
            have hfs40 := blk_frozen BK532.out 3
            have hns40_0 := NB520_532.out
            have hms40_0 := NB532_520.out
            have hs41 : w36.cell? ⟨gb532, 4, none⟩ = some (.int .i64 x533004_1) := (blk_cell BK532.out 4).trans rfl
            have hfs41 := blk_frozen BK532.out 4
            have hns41_0 := NB520_532.out
            have hms41_0 := NB532_520.out
            have hs42 : w36.cell? ⟨gb532, 5, none⟩ = some (.int .i64 x533005_1) := (blk_cell BK532.out 5).trans rfl
            have hfs42 := blk_frozen BK532.out 5
            have hns42_0 := NB520_532.out
            have hms42_0 := NB532_520.out
            refine skip_ (w1 := ?_) (by rfl) rfl ?_ ?_
            rotate_left
            ·
             go_simp
             rfl
            refine hK.out _ _ ?_
            clear hK K
            refine pst (i := 11) (N := some 12) (bz 12 4095) (any_of HT_.out (by kernel_rfl)) ?_
            refine done_ (done_of HT_.out (by kernel_rfl)) ?_
            try go_wp2
            go_roundg k1
            case measure => have := HK1.out; omega
            case rel => exact ⟨(wrap64 (x40_1 + 1)), (t535), (t536), (t537), (t538), (t539), (t540), rsz, H', ⟨by have := HK1.out; omega⟩, ⟨by (with_reducible repeat (first | refine blk_drewN ?_ _ | refine blk_drew ?_ | refine blk_alloc ?_ _)); refine blk_far ?_ NB520_532.out _; (with_reducible repeat (first | refine blk_drewN ?_ _ | refine blk_drew ?_ | refine blk_alloc ?_ _)); refine blk_far ?_ NB520_532.out _; (with_reducible repeat (first | refine blk_drewN ?_ _ | refine blk_drew ?_ | refine blk_alloc ?_ _)); refine blk_far ?_ NB520_532.out _; (with_reducible repeat (first | refine blk_drewN ?_ _ | refine blk_drew ?_ | refine blk_alloc ?_ _)); refine blk_far ?_ NB520_532.out _; (with_reducible repeat (first | refine blk_drewN ?_ _ | refine blk_drew ?_ | refine blk_alloc ?_ _)); refine blk_far ?_ NB520_532.out _; (with_reducible repeat (first | refine blk_drewN ?_ _ | refine blk_drew ?_ | refine blk_alloc ?_ _)); refine blk_far ?_ NB520_532.out _; (with_reducible repeat (first | refine blk_drewN ?_ _ | refine blk_drew ?_ | refine blk_alloc ?_ _)); exact BK520.out⟩, ⟨by (with_reducible repeat (first | refine blk_drewN ?_ _ | refine blk_drew ?_ | refine blk_alloc ?_ _)); refine blk_put (cs := #[.int .i64 t535, .int .i64 t536, .int .i64 t537, .int .i64 t538, .int .i64 t539, .int .i64 x533005_1]) ?_ 5 _ rfl; (with_reducible repeat (first | refine blk_drewN ?_ _ | refine blk_drew ?_ | refine blk_alloc ?_ _)); refine blk_put (cs := #[.int .i64 t535, .int .i64 t536, .int .i64 t537, .int .i64 t538, .int .i64 x533004_1, .int .i64 x533005_1]) ?_ 4 _ rfl; (with_reducible repeat (first | refine blk_drewN ?_ _ | refine blk_drew ?_ | refine blk_alloc ?_ _)); refine blk_put (cs := #[.int .i64 t535, .int .i64 t536, .int .i64 t537, .int .i64 x533003_1, .int .i64 x533004_1, .int .i64 x533005_1]) ?_ 3 _ rfl; (with_reducible repeat (first | refine blk_drewN ?_ _ | refine blk_drew ?_ | refine blk_alloc ?_ _)); refine blk_put (cs := #[.int .i64 t535, .int .i64 t536, .int .i64 x533002_1, .int .i64 x533003_1, .int .i64 x533004_1, .int .i64 x533005_1]) ?_ 2 _ rfl; (with_reducible repeat (first | refine blk_drewN ?_ _ | refine blk_drew ?_ | refine blk_alloc ?_ _)); refine blk_put (cs := #[.int .i64 t535, .int .i64 x533001_1, .int .i64 x533002_1, .int .i64 x533003_1, .int .i64 x533004_1, .int .i64 x533005_1]) ?_ 1 _ rfl; (with_reducible repeat (first | refine blk_drewN ?_ _ | refine blk_drew ?_ | refine blk_alloc ?_ _)); refine blk_put (cs := #[.int .i64 x533000_1, .int .i64 x533001_1, .int .i64 x533002_1, .int .i64 x533003_1, .int .i64 x533004_1, .int .i64 x533005_1]) ?_ 0 _ rfl; (with_reducible repeat (first | refine blk_drewN ?_ _ | refine blk_drew ?_ | refine blk_alloc ?_ _)); exact BK532.out⟩, ⟨bel⟩⟩
           ·
            replace c34 := Bool.eq_false_iff.mpr c34
            subst c34
            rw [if_neg (show ¬ (false = true) by decide)] at H
            simp only [Option.some.injEq, Prod.mk.injEq] at H
            obtain ⟨rfl, rfl⟩ := H
            have p533 : 0 ≤ (x40_1 : Int) := of_decide_eq_true asz
            have q533 : x40_1 < (l2.length : Int) := of_decide_eq_true asz
            obtain ⟨ad533, e533, hx533_0⟩ := Kd.at_int HR2.out x40_1 p533 q533
            cases e533
            replace hx533_0 := (HB.out.cell (World.block_lt_of_cell? w _ hx533_0)).trans hx533_0
            replace p533 := eq_true p533
            replace q533 := eq_true q533
            try go_wp2
            have n0_ := Aside0.mk (blk_drew BK520.out)
            have n1_ := Aside0.mk (blk_drew BK532.out)
            have n2_ := Aside0.mk (below_drew1 HB.out)
            clear BK520
            clear BK532
            clear HB
            have BK520 := n0_
            have BK532 := n1_
            have HB := n2_
            clear n0_ n1_ n2_
            have p534 : 0 ≤ ((rd l2 x40_1) : Int) := of_decide_eq_true asz
            have q534 : (rd l2 x40_1) < (l0_1.length : Int) := of_decide_eq_true asz
            obtain ⟨ad534, A534_0, c534_0, A534_1, c534_1, e534, hx534_0, hx534_1, hl534_0, hi534_0, hl534_1, hi534_1⟩ := at_T64 HR0_1.out (rd l2 x40_1) p534 q534
            have hw534_1 := hx534_1
            have hw534_0 := hx534_0
            cases e534
            replace hx534_0 := (HB.out.cell (World.block_lt_of_cell? w _ hx534_0)).trans hx534_0
            replace hx534_1 := (HB.out.cell (World.block_lt_of_cell? w _ hx534_1)).trans hx534_1
            have HR534_0 := Aside0.mk hi534_0
            have HC534_0 := Aside0.mk hl534_0
            clear hi534_0 hl534_0
            have HR534_1 := Aside0.mk hi534_1
            have HC534_1 := Aside0.mk hl534_1
            clear hi534_1 hl534_1
            replace p534 := eq_true p534
            replace q534 := eq_true q534
            refine start_ (n := 12) (S := fun w' => w'.cell? ⟨gb532, 0, none⟩ = some (.int .i64 x533000_1) ∧ w'.cell? ⟨gb532, 1, none⟩ = some (.int .i64 x533001_1) ∧ w'.cell? ⟨gb532, 2, none⟩ = some (.int .i64 x533002_1) ∧ w'.cell? ⟨gb532, 3, none⟩ = some (.int .i64 x533003_1) ∧ w'.cell? ⟨gb532, 4, none⟩ = some (.int .i64 x533004_1) ∧ w'.cell? ⟨gb532, 5, none⟩ = some (.int .i64 x533005_1) ∧ w'.cell? ⟨gb520, 0, none⟩ = some (.int .i64 a0_0) ∧ w'.cell? ⟨gb520, 1, none⟩ = some (.slice (some ad534) l0_1.length c0_1) ∧ w'.cell? (ad534.add (((rd l2 x40_1)).toNat * 2)) = some (.slice A534_0 ((rd_T64 l0_1 (rd l2 x40_1)).f0).length c534_0) ∧ w'.cell? ⟨(ad534.add (((rd l2 x40_1)).toNat * 2)).block, (ad534.add (((rd l2 x40_1)).toNat * 2)).off + 1, none⟩ = some (.slice A534_1 ((rd_T64 l0_1 (rd l2 x40_1)).f1).length c534_1)) (ds := [10]) #[false, false, false, false, false, false, false, false, false, false, false, false] (by kernel_rfl) rfl rfl ⟨(blk_cell BK532.out 0).trans rfl, (blk_cell BK532.out 1).trans rfl, (blk_cell BK532.out 2).trans rfl, (blk_cell BK532.out 3).trans rfl, (blk_cell BK532.out 4).trans rfl, (blk_cell BK532.out 5).trans rfl, (blk_cell BK520.out 0).trans rfl, (blk_cell BK520.out 1).trans rfl, ((HB.out.cell (World.block_lt_of_cell? w _ hw534_0)).trans hw534_0), ((HB.out.cell (World.block_lt_of_cell? w _ hw534_1)).trans hw534_1)⟩ (fun hHeld => ?_); refine with_tabW key_After.tab11 key_After.bits11 (fun HT_ HW_ => ?_)
            generalize wr.drew = w43 at BK520 BK532 HB HR534_0 HR534_1 hx534_0 hx534_1 hHeld ⊢
            refine pst (i := 1) (N := some 46) (bz 12 2) (any_of HT_.out (by kernel_rfl)) ?_
            refine pst (i := 3) (N := some 48) (bz 12 10) (any_of HT_.out (by kernel_rfl)) ?_
            refine tst10 (i := 0) (N := some 45) (bz 12 11) (take_ofW HT_.out HW_.out (by kernel_rfl)) hHeld ?_
            refine tst10 (i := 2) (N := some 47) (bz 12 15) (take_ofW HT_.out HW_.out (by kernel_rfl)) hHeld ?_
            refine pst (i := 4) (N := some 49) (bz 12 31) (any_of HT_.out (by kernel_rfl)) ?_
            refine tst10 (i := 5) (N := some 50) (bz 12 63) (take_ofW HT_.out HW_.out (by kernel_rfl)) hHeld ?_
            refine one_ (i := 6) (N := some 51) #[true, true, true, true, true, true, true, false, false, false, false, false] rfl rfl (one_of HT_.out (by kernel_rfl)) (by decide) (fun K hK => ?_)
            refine goes_ Try.func70 (by kernel_rfl) rfl #[.agg #[.int .i64 x533000_1, .int .i64 x533001_1, .int .i64 x533002_1, .int .i64 x533003_1, .int .i64 x533004_1, .int .i64 x533005_1], .agg #[.slice A534_0 ((rd_T64 l0_1 (rd l2 x40_1)).f0).length c534_0, .slice A534_1 ((rd_T64 l0_1 (rd l2 x40_1)).f1).length c534_1]] (by rfl) rfl rfl mapz ?_
            with_reducible refine (key_keys_made.calls x533000_1 x533001_1 x533002_1 x533003_1 x533004_1 x533005_1 _ _ ((rd_T64 l0_1 (rd l2 x40_1)).f0) _ _ ((rd_T64 l0_1 (rd l2 x40_1)).f1) t535 t536 t537 t538 t539 t540 false _ ?side1 ?side2 ?side3 ?side4 A33.out).mono ?_
            (case side1 => exact cbz HR534_0)
            (case side2 => exact HC534_0.out)
            (case side3 => exact cbz HR534_1)
            (case side4 => exact HC534_1.out)
            rintro e w44 ⟨rfl, hb⟩
            refine ⟨_, rfl, ?_⟩
            have n0_ := Aside0.mk (blk_below (g := gb520) blkz hb)
            have n1_ := Aside0.mk (blk_below (g := gb532) blkz hb)
            have n2_ := Aside0.mk (below_step bel hb)
            clear BK520
            clear BK532
            clear HB
            have BK520 := n0_
            have BK532 := n1_
            have HB := n2_
            clear n0_ n1_ n2_
            (try clear hb)
            (try clear hb2)
            (try clear hk)
            (try clear hi)
            refine hK.out _ _ ⟨(blk_cell BK532.out 0).trans rfl, (blk_cell BK532.out 1).trans rfl, (blk_cell BK532.out 2).trans rfl, (blk_cell BK532.out 3).trans rfl, (blk_cell BK532.out 4).trans rfl, (blk_cell BK532.out 5).trans rfl, (blk_cell BK520.out 0).trans rfl, (blk_cell BK520.out 1).trans rfl, ((HB.out.cell (World.block_lt_of_cell? w _ hw534_0)).trans hw534_0), ((HB.out.cell (World.block_lt_of_cell? w _ hw534_1)).trans hw534_1)⟩ (fun hHeld => ?_)
            clear hK K
            refine norm_ (a' := ?_) ?_ ?_
            rotate_left
            ·
             show Act.put _ (some 51) _ = _
             simp only [Act.put, List.setIfInBounds_toArray, List.set_cons_zero, List.set_cons_succ, i64_w, i32_w]
             rfl
            refine pst (i := 7) (N := some 44) (bz 12 255) (any_of HT_.out (by kernel_rfl)) ?_
            refine pst (i := 8) (N := some 52) (bz 12 511) (any_of HT_.out (by kernel_rfl)) ?_
            refine pst (i := 9) (N := some 53) (bz 12 1023) (any_of HT_.out (by kernel_rfl)) ?_
            refine last_ (i := 10) (N := none) #[true, true, true, true, true, true, true, true, true, true, true, false] rfl rfl (one_of HT_.out (by kernel_rfl)) (by decide) (fun K hK => ?_)
            have hs45 : w44.cell? ⟨gb532, 0, none⟩ = some (.int .i64 x533000_1) := (blk_cell BK532.out 0).trans rfl
            have hfs45 := blk_frozen BK532.out 0
            have hns45_0 := NB520_532.out
            have hms45_0 := NB532_520.out
            have hs46 : w44.cell? ⟨gb532, 1, none⟩ = some (.int .i64 x533001_1) := (blk_cell BK532.out 1).trans rfl
            have hfs46 := blk_frozen BK532.out 1
            have hns46_0 := NB520_532.out
            have hms46_0 := NB532_520.out
            have hs47 : w44.cell? ⟨gb532, 2, none⟩ = some (.int .i64 x533002_1) := (blk_cell BK532.out 2).trans rfl
            have hfs47 := blk_frozen BK532.out 2
            have hns47_0 := NB520_532.out
            have hms47_0 := NB532_520.out
            have hs48 : w44.cell? ⟨gb532, 3, none⟩ = some (.int .i64 x533003_1) := (blk_cell BK532.out 3).trans rfl
            have hfs48 := blk_frozen BK532.out 3
            have hns48_0 := NB520_532.out
            have hms48_0 := NB532_520.out
            have hs49 : w44.cell? ⟨gb532, 4, none⟩ = some (.int .i64 x533004_1) := (blk_cell BK532.out 4).trans rfl
            have hfs49 := blk_frozen BK532.out 4
            have hns49_0 := NB520_532.out
            have hms49_0 := NB532_520.out
            have hs50 : w44.cell? ⟨gb532, 5, none⟩ = some (.int .i64 x533005_1) := (blk_cell BK532.out 5).trans rfl
            have hfs50 := blk_frozen BK532.out 5
            have hns50_0 := NB520_532.out
            have hms50_0 := NB532_520.out
            refine skip_ (w1 := ?_) (by rfl) rfl ?_ ?_
            rotate_left
            ·
             go_simp
             rfl
            refine hK.out _ _ ?_
            clear hK K
            refine pst (i := 11) (N := some 12) (bz 12 4095) (any_of HT_.out (by kernel_rfl)) ?_
            refine done_ (done_of HT_.out (by kernel_rfl)) ?_
            try go_wp2
            go_ret2
            exact ⟨_, ezz, by first | exact Kd.R_nil _ _ _ _ _ | exact Kd.N_nil _ _ _ _ _ | exact Kd.V_nil _ _ _ _ _ | exact Kd.Q_nil _ _ _ _ _ | exact Kd.S_nil _ _ _ _ _, bel⟩
          ·
           rw [if_neg c32] at H
           exact absurd H (by simp)
         ·
          rw [if_neg c31] at H
          exact absurd H (by simp)
        ·
         rw [if_neg c30] at H
         exact absurd H (by simp)
       ·
        rw [if_neg c29] at H
        exact absurd H (by simp)
      ·
       rw [if_neg c28] at H
       have c28b0 : decide (x40_1 < (l2.length : Int)) = false := decide_eq_false c28
       clear c28
       replace H := Option.bind_eq_some_iff.mp H
       obtain ⟨t542, A510, H⟩ := H
       try dsimp only at H
       have A51 := Aside0.mk A510
       clear A510
       simp only [Option.some.injEq, Prod.mk.injEq] at H
       obtain ⟨rfl, rfl⟩ := H
       have hnb52 := NB532_520.out
       have hnc52 := NB520_532.out
       obtain ⟨hcz53_0, hcz53_1, hcz53_2, hcz53_3, hcz53_4, hcz53_5⟩ := bc6 BK532.out
       obtain ⟨hfz53_0, hfz53_1, hfz53_2, hfz53_3, hfz53_4, hfz53_5⟩ := bf6 BK532.out
       obtain ⟨hcz54_0, hcz54_1⟩ := bc2 BK520.out
       obtain ⟨hfz54_0, hfz54_1⟩ := bf2 BK520.out
       go_wp2_with (first | ((with_reducible refine gate_callee (f := 55) rfl ?_); refine goesL_ (some 60) rfl rfl Try.func55 (by kernel_rfl) rfl #[.agg #[.int .i64 x533000_1, .int .i64 x533001_1, .int .i64 x533002_1, .int .i64 x533003_1, .int .i64 x533004_1, .int .i64 x533005_1], .int .i64 a0_0] rfl mapz ?_; (with_reducible refine (key_keys_list.calls x533000_1 x533001_1 x533002_1 x533003_1 x533004_1 x533005_1 a0_0 t542 _ A51.out).mono ?_); rintro e w55 ⟨v543, rfl, ho0, hb⟩; refine ⟨_, rfl, ?_⟩; have HO544 := Aside0.mk (Kd.R_lower (Kd.R_newM (M := fun k_ => (w.heap.size ≤ k_)) ho0 (below_size bel) (fun k_ h_ => h_)) (below_size bel)); replace BK520 := Aside0.mk (blk_below (g := gb520) blkz hb); replace BK532 := Aside0.mk (blk_below (g := gb532) blkz hb); replace HB := Aside0.mk (below_step bel hb); (try clear hb); (try clear hb2); (try clear hk); (try clear hi); (try clear ho0)))
       go_ret2
       exact ⟨_, ezz, by (with_reducible repeat (first | apply Kd.R_alloc | apply Kd.R_drewN | apply Kd.R_drew)); exact Kd.R_mono HO544.out (fun _ hk => hk.1), bel⟩
   ·
    replace c14 := Bool.eq_false_iff.mpr c14
    subst c14
    rw [if_neg (show ¬ (false = true) by decide)] at H
    simp only [Option.some.injEq, Prod.mk.injEq] at H
    obtain ⟨rfl, rfl⟩ := H
    go_enter Try.func28, Try.ntmps28
    go_wp2_with (first | ((with_reducible refine gate_dst (N := 3) rfl ?_); (try (refine gate_guard (by rfl) ?_; dsimp only)); refine box_event ?hg (N := 3) ?hd (cs := #[.int .i64 a0_0, .slice A0_1 l0_1.length c0_1]) (t := 24) ?hr ?_; (case hd => rfl); (case hg => rfl); (case hr => first | (go_simp; done) | (go_simp; rfl)); intro gb520 hg w56 hbox hb; have BK520 := Aside0.mk (hbox); have GW520 := bsz (w := w) hg; have GE520 := GW520; replace HO1 := Aside0.mk (Kd.V_below (Kd.V_elderB (by (with_reducible repeat (first | apply Kd.V_alloc | apply Kd.V_drewN | apply Kd.V_drew)); exact HO1.out) gb520 (Nat.le_of_eq hg.symm)) hb); replace HB := Aside0.mk (below_step bel hb); clear hb hbox hg; obtain ⟨hcz57_0, hcz57_1⟩ := bc2 BK520.out) | ((with_reducible refine gate_dst (N := 15) rfl ?_); (try (refine gate_guard (by rfl) ?_; dsimp only)); refine Kd.N_lit (Kd.slice 3 (Kd.int .i64)) _ 25 ?hg (N' := 15) ?hd (xs := ([l1] : List (List Int))) (inner := [.slice A1 l1.length c1]) (ok := (fun k_ => (P1_ k_ ∨ w.heap.size ≤ k_) ∧ k_ ≠ gb520)) (okp := (fun k_ => (P1_ k_ ∨ w.heap.size ≤ k_) ∧ k_ ≠ gb520)) ?hr ?hp (fun _ hk => hk) ((show ∀ k_, w56.heap.size ≤ k_ → (fun k_ => (P1_ k_ ∨ w.heap.size ≤ k_) ∧ k_ ≠ gb520) k_ from fun k_ hk => ⟨(.inr (Nat.le_trans (below_size bel) hk)), Kd.freshB (g := gb520) (o := .cells #[.int .i64 a0_0, .slice A0_1 l0_1.length c0_1] 24 (0, 0)) blkz k_ hk⟩) _ (Nat.le_refl _)) (Below.refl _ _) (Nat.le_refl _) (by simp) ?_; (case hd => rfl); (case hg => rfl); (case hr => first | (go_simp; done) | (go_simp; rfl)); (case hp => exact (Reps.one (show Kd.FK (Kd.slice 3 (Kd.int .i64)) _ _ l1 [.slice A1 l1.length c1] from (Kd.FK_slice_mk (Kd.V_reads' (Kd.V_mono (ok' := (fun k_ => (P1_ k_ ∨ w.heap.size ≤ k_) ∧ k_ ≠ gb520)) (HO1.out) (fun k_ hk => ⟨hk.1, hk.2⟩))).2.1 (Kd.V_F (Kd.V_mono (ok' := (fun k_ => (P1_ k_ ∨ w.heap.size ≤ k_) ∧ k_ ≠ gb520)) (HO1.out) (fun k_ hk => ⟨hk.1, hk.2⟩))))) (Reps.none _ _))); intro v522 w58 ho59 hb hg_ hnew_; clear hg_ hnew_; (first | rw [← Ny521.out] at ho59 | (simp only [Int.reduceToNat] at ho59; rw [← Ny521.out] at ho59)); have HO523 := Aside0.mk (Kd.N_lower ho59 (below_size bel)); replace HO1 := Aside0.mk (Kd.V_elder' (by (with_reducible repeat (first | apply Kd.V_alloc | apply Kd.V_drewN | apply Kd.V_drew)); exact HO1.out) (Kd.N_base ho59) hb); replace BK520 := Aside0.mk (blk_below (g := gb520) blkz hb); replace HB := Aside0.mk (below_step bel hb); clear hb ho59; obtain ⟨Ao60, co60, eo60⟩ := Kd.N_slice HO523.out; subst eo60) | ((with_reducible refine gate_callee (f := 68) rfl ?_); refine goesL_ (some 16) rfl rfl Try.func68 (by kernel_rfl) rfl #[.agg #[.int .i64 a0_0, .slice A0_1 l0_1.length c0_1], .slice Ao60 y521.length co60] rfl mapz ?_; (with_reducible refine (key_open.calls a0_0 _ _ l0_1 _ _ y521 t524 _ (cbz HR0_1) HC0_1.out ?side3 ?side4 A4.out).mono ?_); (case side3 => repeat (first | exact (Kd.N_reads' HO523.out).2.2 | (with_reducible refine Kd.C_alloc ?_ _) | (with_reducible refine Kd.C_drewN ?_ _) | (with_reducible refine Kd.C_drew ?_))); (case side4 => exact (Kd.N_reads' HO523.out).2.1); rintro e w61 ⟨rfl, hb⟩; refine ⟨_, rfl, ?_⟩; replace HO1 := Aside0.mk (Kd.V_below (by (with_reducible repeat (first | apply Kd.V_alloc | apply Kd.V_drewN | apply Kd.V_drew)); exact HO1.out) hb); replace HO523 := Aside0.mk (Kd.N_below (by (with_reducible repeat (first | apply Kd.N_alloc | apply Kd.N_drewN | apply Kd.N_drew)); exact HO523.out) hb); replace BK520 := Aside0.mk (blk_below (g := gb520) blkz hb); replace HB := Aside0.mk (below_step bel hb); clear hb; obtain ⟨hcz62_0, hcz62_1⟩ := bc2 BK520.out) | (go_at_call 69; (with_reducible refine (key_isList.calls _ _ l2 (l2.length : Int) 0 (wrap64 ((l0_1.length : Int) - 1)) false _ (cbz HR2) HC2.out A13.out).mono ?_); rintro e w63 ⟨rfl, hb⟩; replace HO1 := Aside0.mk (Kd.V_below (by (with_reducible repeat (first | apply Kd.V_alloc | apply Kd.V_drewN | apply Kd.V_drew)); exact HO1.out) hb); replace HO523 := Aside0.mk (Kd.N_below (by (with_reducible repeat (first | apply Kd.N_alloc | apply Kd.N_drewN | apply Kd.N_drew)); exact HO523.out) hb); replace BK520 := Aside0.mk (blk_below (g := gb520) blkz hb); replace HB := Aside0.mk (below_step bel hb); clear hb))
    go_ret2
    exact ⟨_, ezz, by first | exact Kd.R_nil _ _ _ _ _ | exact Kd.N_nil _ _ _ _ _ | exact Kd.V_nil _ _ _ _ _ | exact Kd.Q_nil _ _ _ _ _ | exact Kd.S_nil _ _ _ _ _, bel⟩
 ·
  rw [if_neg c5] at H
  have c5b0 : (t524 == 0) = false := beq_eq_false_iff_ne.mpr c5
  have c5b1 : (t524 != 0) = true := bne_iff_ne.mpr c5
  simp only [Option.some.injEq, Prod.mk.injEq] at H
  obtain ⟨rfl, rfl⟩ := H
  go_enter Try.func28, Try.ntmps28
  go_wp2_with (first | ((with_reducible refine gate_dst (N := 3) rfl ?_); (try (refine gate_guard (by rfl) ?_; dsimp only)); refine box_event ?hg (N := 3) ?hd (cs := #[.int .i64 a0_0, .slice A0_1 l0_1.length c0_1]) (t := 24) ?hr ?_; (case hd => rfl); (case hg => rfl); (case hr => first | (go_simp; done) | (go_simp; rfl)); intro gb520 hg w64 hbox hb; have BK520 := Aside0.mk (hbox); have GW520 := bsz (w := w) hg; have GE520 := GW520; replace HO1 := Aside0.mk (Kd.V_below (Kd.V_elderB (by (with_reducible repeat (first | apply Kd.V_alloc | apply Kd.V_drewN | apply Kd.V_drew)); exact HO1.out) gb520 (Nat.le_of_eq hg.symm)) hb); replace HB := Aside0.mk (below_step bel hb); clear hb hbox hg; obtain ⟨hcz65_0, hcz65_1⟩ := bc2 BK520.out) | ((with_reducible refine gate_dst (N := 15) rfl ?_); (try (refine gate_guard (by rfl) ?_; dsimp only)); refine Kd.N_lit (Kd.slice 3 (Kd.int .i64)) _ 25 ?hg (N' := 15) ?hd (xs := ([l1] : List (List Int))) (inner := [.slice A1 l1.length c1]) (ok := (fun k_ => (P1_ k_ ∨ w.heap.size ≤ k_) ∧ k_ ≠ gb520)) (okp := (fun k_ => (P1_ k_ ∨ w.heap.size ≤ k_) ∧ k_ ≠ gb520)) ?hr ?hp (fun _ hk => hk) ((show ∀ k_, w64.heap.size ≤ k_ → (fun k_ => (P1_ k_ ∨ w.heap.size ≤ k_) ∧ k_ ≠ gb520) k_ from fun k_ hk => ⟨(.inr (Nat.le_trans (below_size bel) hk)), Kd.freshB (g := gb520) (o := .cells #[.int .i64 a0_0, .slice A0_1 l0_1.length c0_1] 24 (0, 0)) blkz k_ hk⟩) _ (Nat.le_refl _)) (Below.refl _ _) (Nat.le_refl _) (by simp) ?_; (case hd => rfl); (case hg => rfl); (case hr => first | (go_simp; done) | (go_simp; rfl)); (case hp => exact (Reps.one (show Kd.FK (Kd.slice 3 (Kd.int .i64)) _ _ l1 [.slice A1 l1.length c1] from (Kd.FK_slice_mk (Kd.V_reads' (Kd.V_mono (ok' := (fun k_ => (P1_ k_ ∨ w.heap.size ≤ k_) ∧ k_ ≠ gb520)) (HO1.out) (fun k_ hk => ⟨hk.1, hk.2⟩))).2.1 (Kd.V_F (Kd.V_mono (ok' := (fun k_ => (P1_ k_ ∨ w.heap.size ≤ k_) ∧ k_ ≠ gb520)) (HO1.out) (fun k_ hk => ⟨hk.1, hk.2⟩))))) (Reps.none _ _))); intro v522 w66 ho67 hb hg_ hnew_; clear hg_ hnew_; (first | rw [← Ny521.out] at ho67 | (simp only [Int.reduceToNat] at ho67; rw [← Ny521.out] at ho67)); have HO523 := Aside0.mk (Kd.N_lower ho67 (below_size bel)); replace HO1 := Aside0.mk (Kd.V_elder' (by (with_reducible repeat (first | apply Kd.V_alloc | apply Kd.V_drewN | apply Kd.V_drew)); exact HO1.out) (Kd.N_base ho67) hb); replace BK520 := Aside0.mk (blk_below (g := gb520) blkz hb); replace HB := Aside0.mk (below_step bel hb); clear hb ho67; obtain ⟨Ao68, co68, eo68⟩ := Kd.N_slice HO523.out; subst eo68) | ((with_reducible refine gate_callee (f := 68) rfl ?_); refine goesL_ (some 16) rfl rfl Try.func68 (by kernel_rfl) rfl #[.agg #[.int .i64 a0_0, .slice A0_1 l0_1.length c0_1], .slice Ao68 y521.length co68] rfl mapz ?_; (with_reducible refine (key_open.calls a0_0 _ _ l0_1 _ _ y521 t524 _ (cbz HR0_1) HC0_1.out ?side3 ?side4 A4.out).mono ?_); (case side3 => repeat (first | exact (Kd.N_reads' HO523.out).2.2 | (with_reducible refine Kd.C_alloc ?_ _) | (with_reducible refine Kd.C_drewN ?_ _) | (with_reducible refine Kd.C_drew ?_))); (case side4 => exact (Kd.N_reads' HO523.out).2.1); rintro e w69 ⟨rfl, hb⟩; refine ⟨_, rfl, ?_⟩; replace HO1 := Aside0.mk (Kd.V_below (by (with_reducible repeat (first | apply Kd.V_alloc | apply Kd.V_drewN | apply Kd.V_drew)); exact HO1.out) hb); replace HO523 := Aside0.mk (Kd.N_below (by (with_reducible repeat (first | apply Kd.N_alloc | apply Kd.N_drewN | apply Kd.N_drew)); exact HO523.out) hb); replace BK520 := Aside0.mk (blk_below (g := gb520) blkz hb); replace HB := Aside0.mk (below_step bel hb); clear hb))
  go_ret2
  exact ⟨_, ezz, by first | exact Kd.R_nil _ _ _ _ _ | exact Kd.N_nil _ _ _ _ _ | exact Kd.V_nil _ _ _ _ _ | exact Kd.Q_nil _ _ _ _ _ | exact Kd.S_nil _ _ _ _ _, bel⟩

/-! ### key_IsPlay: function 45 -/
def key_IsPlay.f (k : Nat) (a0_0 : Int) (l0_1 : List (S64)) (l1 : List Int) (l2 : List Int) : Option (Bool × Int) := (key_After.f k a0_0 l0_1 l1 l2).bind fun bt546 => (if bt546.2 = 5 then (some (false, 0)) else (some ((bt546.2 == 0), bt546.2)))
set_option maxHeartbeats 8000000 in
set_option maxRecDepth 100000 in
theorem key_IsPlay.calls (k : Nat) (a0_0 : Int) (A0_1 : Option Addr) (c0_1 : Nat) (l0_1 : List (S64)) (A1 : Option Addr) (c1 : Nat) (l1 : List Int) (A2 : Option Addr) (c2 : Nat) (l2 : List Int) (r1 : Bool) (r2 : Int) (w : World) (hr0_1 : Kd.C k64 w A0_1 l0_1.length l0_1) (hc0_1 : l0_1.length ≤ c0_1) (hr1 : Kd.C (Kd.int .i64) w A1 l1.length l1) (hc1 : l1.length ≤ c1) (hr2 : Kd.C (Kd.int .i64) w A2 l2.length l2) (hc2 : l2.length ≤ c2) (h : key_IsPlay.f k a0_0 l0_1 l1 l2 = some (r1, r2)) :
  Calls Try.prog 45 #[.agg #[.int .i64 a0_0, .slice A0_1 l0_1.length c0_1], .slice A1 l1.length c1, .slice A2 l2.length c2] w fun e w' => e = .returned (.tuple #[.bool r1, .int .i64 r2]) ∧ Below w.heap.size w w' := by
 have hu24 := Try.underlying24
 have HR0_1 := Aside0.mk hr0_1
 have HC0_1 := Aside0.mk hc0_1
 clear hr0_1 hc0_1
 have HR1 := Aside0.mk hr1
 have HC1 := Aside0.mk hc1
 clear hr1 hc1
 have HR2 := Aside0.mk hr2
 have HC2 := Aside0.mk hc2
 clear hr2 hc2
 have HB := Aside0.mk (Below.refl w.heap.size w)
 have H : ((key_After.f k a0_0 l0_1 l1 l2).bind fun bt546 => (if bt546.2 = 5 then (some (false, 0)) else (some ((bt546.2 == 0), bt546.2)))) = some (r1, r2) := h
 clear h
 replace H := Option.bind_eq_some_iff.mp H
 obtain ⟨⟨t546, t549⟩, A40, H⟩ := H
 try dsimp only at H
 have A4 := Aside0.mk A40
 clear A40
 by_cases c5 : t549 = 5
 ·
  rw [if_pos c5] at H
  have c5b0 : (t549 == 5) = true := beq_iff_eq.mpr c5
  have c5b1 : (t549 != 5) = false := bne_eq_false_iff_eq.mpr c5
  clear c5
  simp only [Option.some.injEq, Prod.mk.injEq] at H
  obtain ⟨rfl, rfl⟩ := H
  go_enter Try.func45, Try.ntmps45
  go_wp2_with (first | ((with_reducible refine gate_dst (N := 3) rfl ?_); refine box_event ?hg (N := 3) ?hd (cs := #[.int .i64 a0_0, .slice A0_1 l0_1.length c0_1]) (t := 24) ?hr ?_; (case hd => rfl); (case hg => rfl); (case hr => first | (go_simp; done) | (go_simp; rfl)); intro gb545 hg w6 hbox hb; have BK545 := Aside0.mk (hbox); have GW545 := bsz (w := w) hg; have GE545 := GW545; replace HB := Aside0.mk (below_step bel hb); clear hb hbox hg; obtain ⟨hcz7_0, hcz7_1⟩ := bc2 BK545.out) | ((with_reducible refine gate_callee (f := 28) rfl ?_); refine goesL_ (some 14) rfl rfl Try.func28 (by kernel_rfl) rfl #[.agg #[.int .i64 a0_0, .slice A0_1 l0_1.length c0_1], .slice A1 l1.length c1, .slice A2 l2.length c2] rfl mapz ?_; (with_reducible refine (key_After.calls k a0_0 _ _ l0_1 (fun k_ => k_ < w.heap.size) _ _ l1 _ _ l2 t546 t549 _ (cbz HR0_1) HC0_1.out ?side3 (cbz HR2) HC2.out A4.out).mono ?_); (case side3 => exact Kd.V_mk HC1.out (Kd.F_below (Kd.C_F (Kd.heap_int .i64) HR1.out) bel)); rintro e w8 ⟨v547, rfl, ho0, hb⟩; refine ⟨_, rfl, ?_⟩; have HO548 := Aside0.mk (Kd.R_lower (Kd.R_mono (ok' := fun k_ => True) ho0 (fun _ hk_ => trivial)) (below_size bel)); replace BK545 := Aside0.mk (blk_below (g := gb545) blkz hb); replace HB := Aside0.mk (below_step bel hb); (try clear hb); (try clear hb2); (try clear hk); (try clear hi); (try clear ho0)))
  go_ret2
  exact ⟨ezz, bel⟩
 ·
  rw [if_neg c5] at H
  have c5b0 : (t549 == 5) = false := beq_eq_false_iff_ne.mpr c5
  have c5b1 : (t549 != 5) = true := bne_iff_ne.mpr c5
  simp only [Option.some.injEq, Prod.mk.injEq] at H
  obtain ⟨rfl, rfl⟩ := H
  go_enter Try.func45, Try.ntmps45
  go_wp2_with (first | ((with_reducible refine gate_dst (N := 3) rfl ?_); refine box_event ?hg (N := 3) ?hd (cs := #[.int .i64 a0_0, .slice A0_1 l0_1.length c0_1]) (t := 24) ?hr ?_; (case hd => rfl); (case hg => rfl); (case hr => first | (go_simp; done) | (go_simp; rfl)); intro gb545 hg w9 hbox hb; have BK545 := Aside0.mk (hbox); have GW545 := bsz (w := w) hg; have GE545 := GW545; replace HB := Aside0.mk (below_step bel hb); clear hb hbox hg; obtain ⟨hcz10_0, hcz10_1⟩ := bc2 BK545.out) | ((with_reducible refine gate_callee (f := 28) rfl ?_); refine goesL_ (some 14) rfl rfl Try.func28 (by kernel_rfl) rfl #[.agg #[.int .i64 a0_0, .slice A0_1 l0_1.length c0_1], .slice A1 l1.length c1, .slice A2 l2.length c2] rfl mapz ?_; (with_reducible refine (key_After.calls k a0_0 _ _ l0_1 (fun k_ => k_ < w.heap.size) _ _ l1 _ _ l2 t546 t549 _ (cbz HR0_1) HC0_1.out ?side3 (cbz HR2) HC2.out A4.out).mono ?_); (case side3 => exact Kd.V_mk HC1.out (Kd.F_below (Kd.C_F (Kd.heap_int .i64) HR1.out) bel)); rintro e w11 ⟨v547, rfl, ho0, hb⟩; refine ⟨_, rfl, ?_⟩; have HO548 := Aside0.mk (Kd.R_lower (Kd.R_mono (ok' := fun k_ => True) ho0 (fun _ hk_ => trivial)) (below_size bel)); replace BK545 := Aside0.mk (blk_below (g := gb545) blkz hb); replace HB := Aside0.mk (below_step bel hb); (try clear hb); (try clear hb2); (try clear hk); (try clear hi); (try clear ho0)))
  go_ret2
  exact ⟨ezz, bel⟩

end Go.Proofs.Ytgdfakmlpdeabaa.XKey