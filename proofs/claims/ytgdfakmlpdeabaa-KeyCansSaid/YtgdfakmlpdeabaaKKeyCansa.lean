-- Written by wip/pack.py of this repo: texts of this claim, put together.
import Derived.Test.YtgdfakmlpdeabaaRows
import Derived.WalkKit
import Derived.ProofKit
import Derived.OpenShut
import Derived.ShutString
import Derived.ChangeOld
import Derived.Below
import Derived.SizedLaws
import Derived.Test.YtgdfakmlpdeabaaKKeyg
namespace Go.Proofs.Ytgdfakmlpdeabaa.XKey
open Go.RowKit Go.Proofs.YtgdfakmlpdeabaaW.PrintWords Go.Proofs.YtgdfakmlpdeabaaW.PrintLast Go.Proofs.YtgdfakmlpdeabaaW.PrintMore
attribute [local go_sem] max2_int min2_int max_two min_two max_three min_three max_four min_four   -- for this text's walks alone
set_option linter.unusedVariables false
set_option linter.unusedSimpArgs false
/-! ### dropperlaw06_KeyCans: function 7 -/
def dropperlaw06_KeyCans.f (k : Nat) (a0_0 : Int) (l0_1 : List (S64)) (l1 : List Int) (a2 : Int) : Option (Bool) := (dropperlaw06_Large.f k a0_0 l0_1 (([l1] : List (List Int)))).bind fun t497 => (if t497 = true then ((dropperlaw06_Awake.f k).bind fun t498 => (some t498)) else ((key_Can.f k a0_0 l0_1 l1).bind fun bt499 => ((dropperref06_Can.f k a0_0 l0_1 l1).bind fun bt503 => ((key_Make.f a0_0 l0_1 l1 a2).bind fun bt507 => ((dropperref06_Make.f k a0_0 l0_1 l1 a2).bind fun bt511 => ((key_Valid.f a0_0 l0_1).bind fun t515 => ((dropperref06_Valid.f k a0_0 l0_1).bind fun t516 => (if (t515 == t516) = true then (if bt499.2 = bt503.2 then ((dropperlaw06_SameInts.f k bt499.1 bt503.1).bind fun t517 => (if t517 = true then (if bt507.2 = bt511.2 then ((dropperlaw06_SameInts.f k bt507.1 bt511.1).bind fun t518 => (if t518 = true then ((dropperlaw06_Awake.f k).bind fun t519 => (some t519)) else (none))) else (none)) else (none))) else (none)) else (none)))))))))
def dropperlaw06_KeyCans.T7 : Bool × List (List Nat × List Nat) := (true, [([], []), ([0], [0]), ([], []), ([2, 1], [2]), ([1, 3], [1, 3]), ([4, 3], [4]), ([5], [5]), ([5], [5]), ([6, 7, 5], [5, 6, 7]), ([5, 8], [5, 8]), ([9, 5], [9]), ([10], [10]), ([10], [10]), ([11, 12, 10, 10], [10, 11, 12]), ([10, 13], [10, 13]), ([14, 13], [14]), ([15], [15]), ([15], [15]), ([16, 17, 15], [15, 16, 17]), ([15, 18], [15, 18]), ([19, 15], [19]), ([20], [20]), ([20], [20]), ([21, 22, 20, 20], [20, 21, 22]), ([20, 23], [20, 23]), ([24, 23], [24]), ([25, 25], [25]), ([25, 26], [25, 26]), ([27, 26, 0, 1, 2, 3, 4, 5, 6, 7, 8, 9, 10, 11, 12, 13, 14, 15, 16, 17, 18, 19, 20, 21, 22, 23, 24, 25, 26, 27], [27])])
def dropperlaw06_KeyCans.B7 : List Nat := [0, 1, 0, 7, 15, 31, 63, 63, 255, 511, 1023, 2047, 2047, 8191, 16383, 32767, 65535, 65535, 262143, 524287, 1048575, 2097151, 2097151, 8388607, 16777215, 33554431, 67108863, 134217727, 268435455]
theorem dropperlaw06_KeyCans.tab7 : rtab .any (opsOf Try.f7 7) = dropperlaw06_KeyCans.T7 := by kernel_rfl
theorem dropperlaw06_KeyCans.bits7 : waitsOk dropperlaw06_KeyCans.T7.2 dropperlaw06_KeyCans.B7 = true := by kernel_rfl
set_option maxHeartbeats 8000000 in
set_option maxRecDepth 100000 in
theorem dropperlaw06_KeyCans.calls (k : Nat) (a0_0 : Int) (A0_1 : Option Addr) (c0_1 : Nat) (l0_1 : List (S64)) (P1_ : Nat → Prop) (A1 : Option Addr) (c1 : Nat) (l1 : List Int) (a2 : Int) (r : Bool) (w : World) (hr0_1 : Kd.C k64 w A0_1 l0_1.length l0_1) (hc0_1 : l0_1.length ≤ c0_1) (hs1 : Kd.V (Kd.int .i64) 3 w w.heap.size (fun k_ => P1_ k_) (.slice A1 l1.length c1) l1) (h : dropperlaw06_KeyCans.f k a0_0 l0_1 l1 a2 = some r) :
  Calls Try.prog 7 #[.agg #[.int .i64 a0_0, .slice A0_1 l0_1.length c0_1], .slice A1 l1.length c1, .int .i64 a2] w fun e w' => e = .returned (.bool r) ∧ Below w.heap.size w w' := by
 have hu24 := Try.underlying24
 have HR0_1 := Aside0.mk hr0_1
 have HC0_1 := Aside0.mk hc0_1
 clear hr0_1 hc0_1
 have HO1 := Aside0.mk (show Kd.V (Kd.int .i64) 3 w w.heap.size (fun k_ => (P1_ k_ ∨ w.heap.size ≤ k_)) (.slice A1 l1.length c1) l1 from Kd.V_mono hs1 (fun k_ hk => .inl hk))
 have HB := Aside0.mk (Below.refl w.heap.size w)
 have H : ((dropperlaw06_Large.f k a0_0 l0_1 (([l1] : List (List Int)))).bind fun t497 => (if t497 = true then ((dropperlaw06_Awake.f k).bind fun t498 => (some t498)) else ((key_Can.f k a0_0 l0_1 l1).bind fun bt499 => ((dropperref06_Can.f k a0_0 l0_1 l1).bind fun bt503 => ((key_Make.f a0_0 l0_1 l1 a2).bind fun bt507 => ((dropperref06_Make.f k a0_0 l0_1 l1 a2).bind fun bt511 => ((key_Valid.f a0_0 l0_1).bind fun t515 => ((dropperref06_Valid.f k a0_0 l0_1).bind fun t516 => (if (t515 == t516) = true then (if bt499.2 = bt503.2 then ((dropperlaw06_SameInts.f k bt499.1 bt503.1).bind fun t517 => (if t517 = true then (if bt507.2 = bt511.2 then ((dropperlaw06_SameInts.f k bt507.1 bt511.1).bind fun t518 => (if t518 = true then ((dropperlaw06_Awake.f k).bind fun t519 => (some t519)) else (none))) else (none)) else (none))) else (none)) else (none)))))))))) = some r := h
 clear h
 obtain ⟨y494, hy494⟩ : ∃ y_ : List (List Int), y_ = (([l1] : List (List Int))) := ⟨_, rfl⟩
 replace H : ((dropperlaw06_Large.f k a0_0 l0_1 y494).bind fun t497 => (if t497 = true then ((dropperlaw06_Awake.f k).bind fun t498 => (some t498)) else ((key_Can.f k a0_0 l0_1 l1).bind fun bt499 => ((dropperref06_Can.f k a0_0 l0_1 l1).bind fun bt503 => ((key_Make.f a0_0 l0_1 l1 a2).bind fun bt507 => ((dropperref06_Make.f k a0_0 l0_1 l1 a2).bind fun bt511 => ((key_Valid.f a0_0 l0_1).bind fun t515 => ((dropperref06_Valid.f k a0_0 l0_1).bind fun t516 => (if (t515 == t516) = true then (if bt499.2 = bt503.2 then ((dropperlaw06_SameInts.f k bt499.1 bt503.1).bind fun t517 => (if t517 = true then (if bt507.2 = bt511.2 then ((dropperlaw06_SameInts.f k bt507.1 bt511.1).bind fun t518 => (if t518 = true then ((dropperlaw06_Awake.f k).bind fun t519 => (some t519)) else (none))) else (none)) else (none))) else (none)) else (none)))))))))) = some r := by first | (rw [hy494]; with_reducible exact H) | (have H2_ := (Option.bind_some _ _).symm.trans H; rw [hy494]; with_reducible exact H2_) | (have H2_ := (Option.bind_some _ _).symm.trans H; with_reducible exact H2_) | with_reducible exact H | (rw [hy494]; exact H) | exact H
 have Ny494 := Aside0.mk hy494
 clear hy494
 replace H := Option.bind_eq_some_iff.mp H
 obtain ⟨t497, A40, H⟩ := H
 try dsimp only at H
 have A4 := Aside0.mk A40
 clear A40
 by_cases c5 : t497 = true
 ·
  subst c5
  rw [if_pos rfl] at H
  replace H := Option.bind_eq_some_iff.mp H
  obtain ⟨t498, A60, H⟩ := H
  try dsimp only at H
  have A6 := Aside0.mk A60
  clear A60
  obtain rfl := Option.some.inj H
  go_enter Try.func7, Try.ntmps7
  go_wp2_with (first | ((with_reducible refine gate_dst (N := 3) rfl ?_); refine box_event ?hg (N := 3) ?hd (cs := #[.int .i64 a0_0, .slice A0_1 l0_1.length c0_1]) (t := 24) ?hr ?_; (case hd => rfl); (case hg => rfl); (case hr => first | (go_simp; done) | (go_simp; rfl)); intro gb493 hg w7 hbox hb; have BK493 := Aside0.mk (hbox); have GW493 := bsz (w := w) hg; have GE493 := GW493; replace HO1 := Aside0.mk (Kd.V_below (Kd.V_elderB (by (with_reducible repeat (first | apply Kd.V_alloc | apply Kd.V_drewN | apply Kd.V_drew)); exact HO1.out) gb493 (Nat.le_of_eq hg.symm)) hb); replace HB := Aside0.mk (below_step bel hb); clear hb hbox hg; obtain ⟨hcz8_0, hcz8_1⟩ := bc2 BK493.out) | ((with_reducible refine gate_dst (N := 17) rfl ?_); refine Kd.N_lit (Kd.slice 3 (Kd.int .i64)) _ 25 ?hg (N' := 17) ?hd (xs := ([l1] : List (List Int))) (inner := [.slice A1 l1.length c1]) (ok := (fun k_ => (P1_ k_ ∨ w.heap.size ≤ k_) ∧ k_ ≠ gb493)) (okp := (fun k_ => (P1_ k_ ∨ w.heap.size ≤ k_) ∧ k_ ≠ gb493)) ?hr ?hp (fun _ hk => hk) ((show ∀ k_, w7.heap.size ≤ k_ → (fun k_ => (P1_ k_ ∨ w.heap.size ≤ k_) ∧ k_ ≠ gb493) k_ from fun k_ hk => ⟨(.inr (Nat.le_trans (below_size bel) hk)), Kd.freshB (g := gb493) (o := .cells #[.int .i64 a0_0, .slice A0_1 l0_1.length c0_1] 24 (0, 0)) blkz k_ hk⟩) _ (Nat.le_refl _)) (Below.refl _ _) (Nat.le_refl _) (by simp) ?_; (case hd => rfl); (case hg => rfl); (case hr => first | (go_simp; done) | (go_simp; rfl)); (case hp => exact (Reps.one (show Kd.FK (Kd.slice 3 (Kd.int .i64)) _ _ l1 [.slice A1 l1.length c1] from (Kd.FK_slice_mk (Kd.V_reads' (Kd.V_mono (ok' := (fun k_ => (P1_ k_ ∨ w.heap.size ≤ k_) ∧ k_ ≠ gb493)) (HO1.out) (fun k_ hk => ⟨hk.1, hk.2⟩))).2.1 (Kd.V_F (Kd.V_mono (ok' := (fun k_ => (P1_ k_ ∨ w.heap.size ≤ k_) ∧ k_ ≠ gb493)) (HO1.out) (fun k_ hk => ⟨hk.1, hk.2⟩))))) (Reps.none _ _))); intro v495 w9 ho10 hb hg_ hnew_; clear hg_ hnew_; (first | rw [← Ny494.out] at ho10 | (simp only [Int.reduceToNat] at ho10; rw [← Ny494.out] at ho10)); have HO496 := Aside0.mk (Kd.N_lower ho10 (below_size bel)); replace HO1 := Aside0.mk (Kd.V_elder' (by (with_reducible repeat (first | apply Kd.V_alloc | apply Kd.V_drewN | apply Kd.V_drew)); exact HO1.out) (Kd.N_base ho10) hb); replace BK493 := Aside0.mk (blk_below (g := gb493) blkz hb); replace HB := Aside0.mk (below_step bel hb); clear hb ho10; obtain ⟨Ao11, co11, eo11⟩ := Kd.N_slice HO496.out; subst eo11) | ((with_reducible refine gate_callee (f := 29) rfl ?_); refine goesL_ (some 18) rfl rfl Try.func29 (by kernel_rfl) rfl #[.agg #[.int .i64 a0_0, .slice A0_1 l0_1.length c0_1], .slice Ao11 y494.length co11] rfl mapz ?_; (with_reducible refine (dropperlaw06_Large.calls k a0_0 _ _ l0_1 _ _ y494 true _ (cbz HR0_1) HC0_1.out ?side3 ?side4 A4.out).mono ?_); (case side3 => repeat (first | exact (Kd.N_reads' HO496.out).2.2 | (with_reducible refine Kd.C_alloc ?_ _) | (with_reducible refine Kd.C_drewN ?_ _) | (with_reducible refine Kd.C_drew ?_))); (case side4 => exact (Kd.N_reads' HO496.out).2.1); rintro e w12 ⟨rfl, hb⟩; refine ⟨_, rfl, ?_⟩; replace HO1 := Aside0.mk (Kd.V_below (by (with_reducible repeat (first | apply Kd.V_alloc | apply Kd.V_drewN | apply Kd.V_drew)); exact HO1.out) hb); replace HO496 := Aside0.mk (Kd.N_below (by (with_reducible repeat (first | apply Kd.N_alloc | apply Kd.N_drewN | apply Kd.N_drew)); exact HO496.out) hb); replace BK493 := Aside0.mk (blk_below (g := gb493) blkz hb); replace HB := Aside0.mk (below_step bel hb); clear hb) | ((with_reducible refine gate_callee (f := 15) rfl ?_); refine goesL_ (some 19) rfl rfl Try.func15 (by kernel_rfl) rfl #[] rfl mapz ?_; (with_reducible refine (dropperlaw06_Awake.calls k  t498 _ A6.out).mono ?_); rintro e w13 ⟨rfl, hb⟩; refine ⟨_, rfl, ?_⟩; replace HO1 := Aside0.mk (Kd.V_below (by (with_reducible repeat (first | apply Kd.V_alloc | apply Kd.V_drewN | apply Kd.V_drew)); exact HO1.out) hb); replace HO496 := Aside0.mk (Kd.N_below (by (with_reducible repeat (first | apply Kd.N_alloc | apply Kd.N_drewN | apply Kd.N_drew)); exact HO496.out) hb); replace BK493 := Aside0.mk (blk_below (g := gb493) blkz hb); replace HB := Aside0.mk (below_step bel hb); clear hb))
  go_ret
  exact ⟨ezz, bel⟩
 ·
  replace c5 := Bool.eq_false_iff.mpr c5
  subst c5
  rw [if_neg (show ¬ (false = true) by decide)] at H
  replace H := Option.bind_eq_some_iff.mp H
  obtain ⟨⟨t499, t502⟩, A140, H⟩ := H
  try dsimp only at H
  have A14 := Aside0.mk A140
  clear A140
  replace H := Option.bind_eq_some_iff.mp H
  obtain ⟨⟨t503, t506⟩, A150, H⟩ := H
  try dsimp only at H
  have A15 := Aside0.mk A150
  clear A150
  replace H := Option.bind_eq_some_iff.mp H
  obtain ⟨⟨t507, t510⟩, A160, H⟩ := H
  try dsimp only at H
  have A16 := Aside0.mk A160
  clear A160
  replace H := Option.bind_eq_some_iff.mp H
  obtain ⟨⟨t511, t514⟩, A170, H⟩ := H
  try dsimp only at H
  have A17 := Aside0.mk A170
  clear A170
  replace H := Option.bind_eq_some_iff.mp H
  obtain ⟨t515, A180, H⟩ := H
  try dsimp only at H
  have A18 := Aside0.mk A180
  clear A180
  replace H := Option.bind_eq_some_iff.mp H
  obtain ⟨t516, A190, H⟩ := H
  try dsimp only at H
  have A19 := Aside0.mk A190
  clear A190
  by_cases c20 : (t515 == t516) = true
  ·
   rw [if_pos c20] at H
   have c20b0 : (t515 == t516) = true := c20
   (try (have c20b1 : decide (t515 = t516) = true := by simpa using c20))
   (try (have c20b2 : (t515 == t516) = true := by simpa using c20))
   clear c20
   by_cases c21 : t502 = t506
   ·
    rw [if_pos c21] at H
    have c21b0 : (t502 == t506) = true := beq_iff_eq.mpr c21
    have c21b1 : (t502 != t506) = false := bne_eq_false_iff_eq.mpr c21
    clear c21
    replace H := Option.bind_eq_some_iff.mp H
    obtain ⟨t517, A220, H⟩ := H
    try dsimp only at H
    have A22 := Aside0.mk A220
    clear A220
    by_cases c23 : t517 = true
    ·
     subst c23
     rw [if_pos rfl] at H
     by_cases c24 : t510 = t514
     ·
      rw [if_pos c24] at H
      have c24b0 : (t510 == t514) = true := beq_iff_eq.mpr c24
      have c24b1 : (t510 != t514) = false := bne_eq_false_iff_eq.mpr c24
      clear c24
      replace H := Option.bind_eq_some_iff.mp H
      obtain ⟨t518, A250, H⟩ := H
      try dsimp only at H
      have A25 := Aside0.mk A250
      clear A250
      by_cases c26 : t518 = true
      ·
       subst c26
       rw [if_pos rfl] at H
       replace H := Option.bind_eq_some_iff.mp H
       obtain ⟨t519, A270, H⟩ := H
       try dsimp only at H
       have A27 := Aside0.mk A270
       clear A270
       obtain rfl := Option.some.inj H
       go_enter Try.func7, Try.ntmps7
       try go_wp2_with (first | ((with_reducible refine gate_dst (N := 3) rfl ?_); refine box_event ?hg (N := 3) ?hd (cs := #[.int .i64 a0_0, .slice A0_1 l0_1.length c0_1]) (t := 24) ?hr ?_; (case hd => rfl); (case hg => rfl); (case hr => first | (go_simp; done) | (go_simp; rfl)); intro gb493 hg w28 hbox hb; have BK493 := Aside0.mk (hbox); have GW493 := bsz (w := w) hg; have GE493 := GW493; replace HO1 := Aside0.mk (Kd.V_below (Kd.V_elderB (by (with_reducible repeat (first | apply Kd.V_alloc | apply Kd.V_drewN | apply Kd.V_drew)); exact HO1.out) gb493 (Nat.le_of_eq hg.symm)) hb); replace HB := Aside0.mk (below_step bel hb); clear hb hbox hg; obtain ⟨hcz29_0, hcz29_1⟩ := bc2 BK493.out) | ((with_reducible refine gate_dst (N := 17) rfl ?_); refine Kd.N_lit (Kd.slice 3 (Kd.int .i64)) _ 25 ?hg (N' := 17) ?hd (xs := ([l1] : List (List Int))) (inner := [.slice A1 l1.length c1]) (ok := (fun k_ => (P1_ k_ ∨ w.heap.size ≤ k_) ∧ k_ ≠ gb493)) (okp := (fun k_ => (P1_ k_ ∨ w.heap.size ≤ k_) ∧ k_ ≠ gb493)) ?hr ?hp (fun _ hk => hk) ((show ∀ k_, w28.heap.size ≤ k_ → (fun k_ => (P1_ k_ ∨ w.heap.size ≤ k_) ∧ k_ ≠ gb493) k_ from fun k_ hk => ⟨(.inr (Nat.le_trans (below_size bel) hk)), Kd.freshB (g := gb493) (o := .cells #[.int .i64 a0_0, .slice A0_1 l0_1.length c0_1] 24 (0, 0)) blkz k_ hk⟩) _ (Nat.le_refl _)) (Below.refl _ _) (Nat.le_refl _) (by simp) ?_; (case hd => rfl); (case hg => rfl); (case hr => first | (go_simp; done) | (go_simp; rfl)); (case hp => exact (Reps.one (show Kd.FK (Kd.slice 3 (Kd.int .i64)) _ _ l1 [.slice A1 l1.length c1] from (Kd.FK_slice_mk (Kd.V_reads' (Kd.V_mono (ok' := (fun k_ => (P1_ k_ ∨ w.heap.size ≤ k_) ∧ k_ ≠ gb493)) (HO1.out) (fun k_ hk => ⟨hk.1, hk.2⟩))).2.1 (Kd.V_F (Kd.V_mono (ok' := (fun k_ => (P1_ k_ ∨ w.heap.size ≤ k_) ∧ k_ ≠ gb493)) (HO1.out) (fun k_ hk => ⟨hk.1, hk.2⟩))))) (Reps.none _ _))); intro v495 w30 ho31 hb hg_ hnew_; clear hg_ hnew_; (first | rw [← Ny494.out] at ho31 | (simp only [Int.reduceToNat] at ho31; rw [← Ny494.out] at ho31)); have HO496 := Aside0.mk (Kd.N_lower ho31 (below_size bel)); replace HO1 := Aside0.mk (Kd.V_elder' (by (with_reducible repeat (first | apply Kd.V_alloc | apply Kd.V_drewN | apply Kd.V_drew)); exact HO1.out) (Kd.N_base ho31) hb); replace BK493 := Aside0.mk (blk_below (g := gb493) blkz hb); replace HB := Aside0.mk (below_step bel hb); clear hb ho31; obtain ⟨Ao32, co32, eo32⟩ := Kd.N_slice HO496.out; subst eo32) | ((with_reducible refine gate_callee (f := 29) rfl ?_); refine goesL_ (some 18) rfl rfl Try.func29 (by kernel_rfl) rfl #[.agg #[.int .i64 a0_0, .slice A0_1 l0_1.length c0_1], .slice Ao32 y494.length co32] rfl mapz ?_; (with_reducible refine (dropperlaw06_Large.calls k a0_0 _ _ l0_1 _ _ y494 false _ (cbz HR0_1) HC0_1.out ?side3 ?side4 A4.out).mono ?_); (case side3 => repeat (first | exact (Kd.N_reads' HO496.out).2.2 | (with_reducible refine Kd.C_alloc ?_ _) | (with_reducible refine Kd.C_drewN ?_ _) | (with_reducible refine Kd.C_drew ?_))); (case side4 => exact (Kd.N_reads' HO496.out).2.1); rintro e w33 ⟨rfl, hb⟩; refine ⟨_, rfl, ?_⟩; replace HO1 := Aside0.mk (Kd.V_below (by (with_reducible repeat (first | apply Kd.V_alloc | apply Kd.V_drewN | apply Kd.V_drew)); exact HO1.out) hb); replace HO496 := Aside0.mk (Kd.N_below (by (with_reducible repeat (first | apply Kd.N_alloc | apply Kd.N_drewN | apply Kd.N_drew)); exact HO496.out) hb); replace BK493 := Aside0.mk (blk_below (g := gb493) blkz hb); replace HB := Aside0.mk (below_step bel hb); clear hb; obtain ⟨hcz34_0, hcz34_1⟩ := bc2 BK493.out) | ((with_reducible refine gate_callee (f := 24) rfl ?_); refine goesL_ (some 23) rfl rfl Try.func24 (by kernel_rfl) rfl #[.agg #[.int .i64 a0_0, .slice A0_1 l0_1.length c0_1], .slice A1 l1.length c1] rfl mapz ?_; (with_reducible refine (key_Can.calls k a0_0 _ _ l0_1 (fun k_ => (((P1_ k_ ∨ w.heap.size ≤ k_) ∧ k_ ≠ gb493) ∧ some k_ ≠ (.slice Ao32 y494.length co32 : Value).ownBlock)) _ _ l1 t499 t502 _ (cbz HR0_1) HC0_1.out HO1.out A14.out).mono ?_); rintro e w35 ⟨v500, rfl, ho0, hb⟩; refine ⟨_, rfl, ?_⟩; have HO501 := Aside0.mk (Kd.R_lower (Kd.R_newM (M := fun k_ => (w.heap.size ≤ k_)) (Kd.R_mono (ok' := fun k_ => True) ho0 (fun _ hk_ => trivial)) (below_size bel) (fun k_ h_ => h_)) (below_size bel)); replace HO1 := Aside0.mk (Kd.V_elder' (by (with_reducible repeat (first | apply Kd.V_alloc | apply Kd.V_drewN | apply Kd.V_drew)); exact HO1.out) (Kd.R_base ho0) hb); replace HO496 := Aside0.mk (Kd.N_elder' (by (with_reducible repeat (first | apply Kd.N_alloc | apply Kd.N_drewN | apply Kd.N_drew)); exact HO496.out) (Kd.R_base ho0) hb); replace BK493 := Aside0.mk (blk_below (g := gb493) blkz hb); replace HB := Aside0.mk (below_step bel hb); (try clear hb); (try clear hb2); (try clear hk); (try clear hi); (try clear ho0); obtain ⟨hcz36_0, hcz36_1⟩ := bc2 BK493.out) | ((with_reducible refine gate_callee (f := 40) rfl ?_); refine goesL_ (some 29) rfl rfl Try.func40 (by kernel_rfl) rfl #[.agg #[.int .i64 a0_0, .slice A0_1 l0_1.length c0_1], .slice A1 l1.length c1] rfl mapz ?_; (with_reducible refine (dropperref06_Can.calls k a0_0 _ _ l0_1 (fun k_ => ((((P1_ k_ ∨ w.heap.size ≤ k_) ∧ k_ ≠ gb493) ∧ some k_ ≠ (.slice Ao32 y494.length co32 : Value).ownBlock) ∧ some k_ ≠ (v500 : Value).ownBlock)) _ _ l1 t503 t506 _ (cbz HR0_1) HC0_1.out HO1.out A15.out).mono ?_); rintro e w37 ⟨v504, rfl, ho0, hb⟩; refine ⟨_, rfl, ?_⟩; have HO505 := Aside0.mk (Kd.R_lower (Kd.R_new' (Kd.R_newM (M := fun k_ => (w.heap.size ≤ k_)) (Kd.R_mono (ok' := fun k_ => True) ho0 (fun _ hk_ => trivial)) (below_size bel) (fun k_ h_ => h_)) (Kd.R_lt (ownx HO501))) (below_size bel)); replace HO1 := Aside0.mk (Kd.V_elder' (by (with_reducible repeat (first | apply Kd.V_alloc | apply Kd.V_drewN | apply Kd.V_drew)); exact HO1.out) (Kd.R_base ho0) hb); replace HO496 := Aside0.mk (Kd.N_elder' (by (with_reducible repeat (first | apply Kd.N_alloc | apply Kd.N_drewN | apply Kd.N_drew)); exact HO496.out) (Kd.R_base ho0) hb); replace HO501 := Aside0.mk (Kd.R_elder' (ownx HO501) (Kd.R_base ho0) hb); replace BK493 := Aside0.mk (blk_below (g := gb493) blkz hb); replace HB := Aside0.mk (below_step bel hb); (try clear hb); (try clear hb2); (try clear hk); (try clear hi); (try clear ho0); obtain ⟨hcz38_0, hcz38_1⟩ := bc2 BK493.out) | ((with_reducible refine gate_callee (f := 41) rfl ?_); refine goesL_ (some 36) rfl rfl Try.func41 (by kernel_rfl) rfl #[.agg #[.int .i64 a0_0, .slice A0_1 l0_1.length c0_1], .slice A1 l1.length c1, .int .i64 a2] rfl mapz ?_; (with_reducible refine (key_Make.calls a0_0 _ _ l0_1 (fun k_ => (((((P1_ k_ ∨ w.heap.size ≤ k_) ∧ k_ ≠ gb493) ∧ some k_ ≠ (.slice Ao32 y494.length co32 : Value).ownBlock) ∧ some k_ ≠ (v500 : Value).ownBlock) ∧ some k_ ≠ (v504 : Value).ownBlock)) _ _ l1 a2 t507 t510 _ (cbz HR0_1) HC0_1.out HO1.out A16.out).mono ?_); rintro e w39 ⟨v508, rfl, ho0, hb⟩; refine ⟨_, rfl, ?_⟩; have HO509 := Aside0.mk (Kd.R_lower (Kd.R_new' (Kd.R_new' (Kd.R_newM (M := fun k_ => (w.heap.size ≤ k_)) (Kd.R_mono (ok' := fun k_ => True) ho0 (fun _ hk_ => trivial)) (below_size bel) (fun k_ h_ => h_)) (Kd.R_lt (ownx HO501))) (Kd.R_lt (ownx HO505))) (below_size bel)); replace HO1 := Aside0.mk (Kd.V_elder' (by (with_reducible repeat (first | apply Kd.V_alloc | apply Kd.V_drewN | apply Kd.V_drew)); exact HO1.out) (Kd.R_base ho0) hb); replace HO496 := Aside0.mk (Kd.N_elder' (by (with_reducible repeat (first | apply Kd.N_alloc | apply Kd.N_drewN | apply Kd.N_drew)); exact HO496.out) (Kd.R_base ho0) hb); replace HO501 := Aside0.mk (Kd.R_elder' (ownx HO501) (Kd.R_base ho0) hb); replace HO505 := Aside0.mk (Kd.R_elder' (ownx HO505) (Kd.R_base ho0) hb); replace BK493 := Aside0.mk (blk_below (g := gb493) blkz hb); replace HB := Aside0.mk (below_step bel hb); (try clear hb); (try clear hb2); (try clear hk); (try clear hi); (try clear ho0); obtain ⟨hcz40_0, hcz40_1⟩ := bc2 BK493.out) | ((with_reducible refine gate_callee (f := 42) rfl ?_); refine goesL_ (some 43) rfl rfl Try.func42 (by kernel_rfl) rfl #[.agg #[.int .i64 a0_0, .slice A0_1 l0_1.length c0_1], .slice A1 l1.length c1, .int .i64 a2] rfl mapz ?_; (with_reducible refine (dropperref06_Make.calls k a0_0 _ _ l0_1 _ _ l1 a2 t511 t514 _ (cbz HR0_1) HC0_1.out ?side3 ?side4 A17.out).mono ?_); (case side3 => repeat (first | exact (Kd.V_reads' HO1.out).2.2 | (with_reducible refine Kd.C_alloc ?_ _) | (with_reducible refine Kd.C_drewN ?_ _) | (with_reducible refine Kd.C_drew ?_))); (case side4 => exact (Kd.V_reads' HO1.out).2.1); rintro e w41 ⟨v512, rfl, ho0, hb⟩; refine ⟨_, rfl, ?_⟩; have HO513 := Aside0.mk (Kd.R_lower (Kd.R_new' (Kd.R_new' (Kd.R_new' (Kd.R_newM (M := fun k_ => (w.heap.size ≤ k_)) ho0 (below_size bel) (fun k_ h_ => h_)) (Kd.R_lt (ownx HO501))) (Kd.R_lt (ownx HO505))) (Kd.R_lt (ownx HO509))) (below_size bel)); replace HO1 := Aside0.mk (Kd.V_elder' (by (with_reducible repeat (first | apply Kd.V_alloc | apply Kd.V_drewN | apply Kd.V_drew)); exact HO1.out) (Kd.R_base ho0) hb); replace HO496 := Aside0.mk (Kd.N_elder' (by (with_reducible repeat (first | apply Kd.N_alloc | apply Kd.N_drewN | apply Kd.N_drew)); exact HO496.out) (Kd.R_base ho0) hb); replace HO501 := Aside0.mk (Kd.R_elder' (ownx HO501) (Kd.R_base ho0) hb); replace HO505 := Aside0.mk (Kd.R_elder' (ownx HO505) (Kd.R_base ho0) hb); replace HO509 := Aside0.mk (Kd.R_elder' (ownx HO509) (Kd.R_base ho0) hb); replace BK493 := Aside0.mk (blk_below (g := gb493) blkz hb); replace HB := Aside0.mk (below_step bel hb); (try clear hb); (try clear hb2); (try clear hk); (try clear hi); (try clear ho0)))
       have n0_ := Aside0.mk (Kd.V_drew HO1.out)
       have n1_ := Aside0.mk (Kd.N_drew HO496.out)
       have n2_ := Aside0.mk (Kd.R_drew HO501.out)
       have n3_ := Aside0.mk (Kd.R_drew HO505.out)
       have n4_ := Aside0.mk (Kd.R_drew HO509.out)
       have n5_ := Aside0.mk (Kd.R_drew HO513.out)
       have n6_ := Aside0.mk (blk_drew BK493.out)
       have n7_ := Aside0.mk (below_drew1 HB.out)
       clear HO1
       clear HO496
       clear HO501
       clear HO505
       clear HO509
       clear HO513
       clear BK493
       clear HB
       have HO1 := n0_
       have HO496 := n1_
       have HO501 := n2_
       have HO505 := n3_
       have HO509 := n4_
       have HO513 := n5_
       have BK493 := n6_
       have HB := n7_
       clear n0_ n1_ n2_ n3_ n4_ n5_ n6_ n7_
       refine start_ (n := 29) (S := fun w' => w'.cell? ⟨gb493, 0, none⟩ = some (.int .i64 a0_0) ∧ w'.cell? ⟨gb493, 1, none⟩ = some (.slice A0_1 l0_1.length c0_1)) (ds := []) #[false, false, false, false, false, false, false, false, false, false, false, false, false, false, false, false, false, false, false, false, false, false, false, false, false, false, false, false, false] (by kernel_rfl) rfl rfl ⟨(blk_cell BK493.out 0).trans rfl, (blk_cell BK493.out 1).trans rfl⟩ (fun hHeld => ?_); refine with_tabW dropperlaw06_KeyCans.tab7 dropperlaw06_KeyCans.bits7 (fun HT_ HW_ => ?_)
       generalize w41.drew = w42 at HO1 HO496 HO501 HO505 HO509 HO513 BK493 HB hHeld ⊢
       refine tst2 (i := 0) (N := some 46) (bz 29 1) (take_ofW HT_.out HW_.out (by kernel_rfl)) hHeld ?_
       refine tst2 (i := 2) (N := some 48) (bz 29 5) (take_ofW HT_.out HW_.out (by kernel_rfl)) hHeld ?_
       refine one_ (i := 1) (N := some 47) #[true, true, true, false, false, false, false, false, false, false, false, false, false, false, false, false, false, false, false, false, false, false, false, false, false, false, false, false, false] rfl rfl (one_of HT_.out (by kernel_rfl)) (by decide) (fun K hK => ?_)
       refine goes_ Try.func43 (by kernel_rfl) rfl #[.agg #[.int .i64 a0_0, .slice A0_1 l0_1.length c0_1]] (by rfl) rfl rfl mapz ?_
       with_reducible refine (key_Valid.calls a0_0 _ _ l0_1 t515 _ ?side1 ?side2 A18.out).mono ?_
       (case side1 => exact cbz HR0_1)
       (case side2 => exact HC0_1.out)
       rintro e w43 ⟨rfl, hb⟩
       refine ⟨_, rfl, ?_⟩
       have n0_ := Aside0.mk (Kd.V_below (by (with_reducible repeat (first | apply Kd.V_alloc | apply Kd.V_drewN | apply Kd.V_drew)); exact HO1.out) hb)
       have n1_ := Aside0.mk (Kd.N_below (by (with_reducible repeat (first | apply Kd.N_alloc | apply Kd.N_drewN | apply Kd.N_drew)); exact HO496.out) hb)
       have n2_ := Aside0.mk (Kd.R_below (ownx HO501) hb)
       have n3_ := Aside0.mk (Kd.R_below (ownx HO505) hb)
       have n4_ := Aside0.mk (Kd.R_below (ownx HO509) hb)
       have n5_ := Aside0.mk (Kd.R_below (ownx HO513) hb)
       have n6_ := Aside0.mk (blk_below (g := gb493) blkz hb)
       have n7_ := Aside0.mk (below_step bel hb)
       clear HO1
       clear HO496
       clear HO501
       clear HO505
       clear HO509
       clear HO513
       clear BK493
       clear HB
       have HO1 := n0_
       have HO496 := n1_
       have HO501 := n2_
       have HO505 := n3_
       have HO509 := n4_
       have HO513 := n5_
       have BK493 := n6_
       have HB := n7_
       clear n0_ n1_ n2_ n3_ n4_ n5_ n6_ n7_
       (try clear hb)
       (try clear hb2)
       (try clear hk)
       (try clear hi)
       refine hK.out _ _ ⟨(blk_cell BK493.out 0).trans rfl, (blk_cell BK493.out 1).trans rfl⟩ (fun hHeld => ?_)
       clear hK K
       refine norm_ (a' := ?_) ?_ ?_
       rotate_left
       ·
        show Act.put _ (some 47) _ = _
        simp only [Act.put, List.setIfInBounds_toArray, List.set_cons_zero, List.set_cons_succ, i64_w, i32_w]
        rfl
       refine one_ (i := 3) (N := some 49) #[true, true, true, true, false, false, false, false, false, false, false, false, false, false, false, false, false, false, false, false, false, false, false, false, false, false, false, false, false] rfl rfl (one_of HT_.out (by kernel_rfl)) (by decide) (fun K hK => ?_)
       refine goes_ Try.func12 (by kernel_rfl) rfl #[.agg #[.int .i64 a0_0, .slice A0_1 l0_1.length c0_1]] (by rfl) rfl rfl mapz ?_
       with_reducible refine (dropperref06_Valid.calls k a0_0 _ _ l0_1 t516 _ ?side1 ?side2 A19.out).mono ?_
       (case side1 => exact cbz HR0_1)
       (case side2 => exact HC0_1.out)
       rintro e w44 ⟨rfl, hb⟩
       refine ⟨_, rfl, ?_⟩
       have n0_ := Aside0.mk (Kd.V_below (by (with_reducible repeat (first | apply Kd.V_alloc | apply Kd.V_drewN | apply Kd.V_drew)); exact HO1.out) hb)
       have n1_ := Aside0.mk (Kd.N_below (by (with_reducible repeat (first | apply Kd.N_alloc | apply Kd.N_drewN | apply Kd.N_drew)); exact HO496.out) hb)
       have n2_ := Aside0.mk (Kd.R_below (ownx HO501) hb)
       have n3_ := Aside0.mk (Kd.R_below (ownx HO505) hb)
       have n4_ := Aside0.mk (Kd.R_below (ownx HO509) hb)
       have n5_ := Aside0.mk (Kd.R_below (ownx HO513) hb)
       have n6_ := Aside0.mk (blk_below (g := gb493) blkz hb)
       have n7_ := Aside0.mk (below_step bel hb)
       clear HO1
       clear HO496
       clear HO501
       clear HO505
       clear HO509
       clear HO513
       clear BK493
       clear HB
       have HO1 := n0_
       have HO496 := n1_
       have HO501 := n2_
       have HO505 := n3_
       have HO509 := n4_
       have HO513 := n5_
       have BK493 := n6_
       have HB := n7_
       clear n0_ n1_ n2_ n3_ n4_ n5_ n6_ n7_
       (try clear hb)
       (try clear hb2)
       (try clear hk)
       (try clear hi)
       obtain ⟨Ao45, co45, eo45⟩ := Kd.R_slice HO501.out
       (first | subst eo45 | (injection eo45 with f1_ f2_ f3_; have f4_ := f1_.symm; have f5_ := f3_.symm; clear f1_ f2_ f3_; subst f4_; subst f5_))
       obtain ⟨Ao46, co46, eo46⟩ := Kd.R_slice HO505.out
       (first | subst eo46 | (injection eo46 with f1_ f2_ f3_; have f4_ := f1_.symm; have f5_ := f3_.symm; clear f1_ f2_ f3_; subst f4_; subst f5_))
       refine hK.out _ _ ⟨(blk_cell BK493.out 0).trans rfl, (blk_cell BK493.out 1).trans rfl⟩ (fun hHeld => ?_)
       clear hK K
       refine norm_ (a' := ?_) ?_ ?_
       rotate_left
       ·
        show Act.put _ (some 49) _ = _
        simp only [Act.put, List.setIfInBounds_toArray, List.set_cons_zero, List.set_cons_succ, i64_w, i32_w]
        rfl
       refine pst (i := 4) (N := some 50) (bz 29 31) (any_of HT_.out (by kernel_rfl)) ?_
       refine pst (i := 5) (N := some 51) (bz 29 63) (any_of HT_.out (by kernel_rfl)) ?_
       refine pst (i := 6) (N := some 52) (bz 29 127) (any_of HT_.out (by kernel_rfl)) ?_
       refine pst (i := 7) (N := some 53) (bz 29 255) (any_of HT_.out (by kernel_rfl)) ?_
       refine pst (i := 8) (N := some 54) (bz 29 511) (any_of HT_.out (by kernel_rfl)) ?_
       refine pst (i := 9) (N := some 55) (bz 29 1023) (any_of HT_.out (by kernel_rfl)) ?_
       refine pst (i := 10) (N := some 56) (bz 29 2047) (any_of HT_.out (by kernel_rfl)) ?_
       refine pst (i := 11) (N := some 57) (bz 29 4095) (any_of HT_.out (by kernel_rfl)) ?_
       refine pst (i := 12) (N := some 58) (bz 29 8191) (any_of HT_.out (by kernel_rfl)) ?_
       refine one_ (i := 13) (N := some 59) #[true, true, true, true, true, true, true, true, true, true, true, true, true, true, false, false, false, false, false, false, false, false, false, false, false, false, false, false, false] rfl rfl (one_of HT_.out (by kernel_rfl)) (by decide) (fun K hK => ?_)
       refine goes_ Try.func27 (by kernel_rfl) rfl #[.slice Ao45 t499.length co45, .slice Ao46 t503.length co46] (by rfl) rfl rfl mapz ?_
       with_reducible refine (dropperlaw06_SameInts.calls k _ _ t499 _ _ t503 true _ ?side1 ?side2 ?side3 ?side4 A22.out).mono ?_
       (case side1 => repeat (first | exact (Kd.R_reads' HO501.out).2.2 | (with_reducible refine Kd.C_alloc ?_ _) | (with_reducible refine Kd.C_drewN ?_ _) | (with_reducible refine Kd.C_drew ?_)))
       (case side2 => exact (Kd.R_reads' HO501.out).2.1)
       (case side3 => repeat (first | exact (Kd.R_reads' HO505.out).2.2 | (with_reducible refine Kd.C_alloc ?_ _) | (with_reducible refine Kd.C_drewN ?_ _) | (with_reducible refine Kd.C_drew ?_)))
       (case side4 => exact (Kd.R_reads' HO505.out).2.1)
       rintro e w' ⟨rfl, ⟨nd, rfl⟩⟩
       refine ⟨_, rfl, ?_⟩
       obtain ⟨Ao47, co47, eo47⟩ := Kd.R_slice HO509.out
       (first | subst eo47 | (injection eo47 with f1_ f2_ f3_; have f4_ := f1_.symm; have f5_ := f3_.symm; clear f1_ f2_ f3_; subst f4_; subst f5_))
       obtain ⟨Ao48, co48, eo48⟩ := Kd.R_slice HO513.out
       (first | subst eo48 | (injection eo48 with f1_ f2_ f3_; have f4_ := f1_.symm; have f5_ := f3_.symm; clear f1_ f2_ f3_; subst f4_; subst f5_))
       refine hK.out _ _ ⟨(blk_cell BK493.out 0).trans rfl, (blk_cell BK493.out 1).trans rfl⟩ (fun hHeld => ?_)
       clear hK K
       refine norm_ (a' := ?_) ?_ ?_
       rotate_left
       ·
        show Act.put _ (some 59) _ = _
        simp only [Act.put, List.setIfInBounds_toArray, List.set_cons_zero, List.set_cons_succ, i64_w, i32_w]
        rfl
       refine pst (i := 14) (N := some 60) (bz 29 32767) (any_of HT_.out (by kernel_rfl)) ?_
       refine pst (i := 15) (N := some 61) (bz 29 65535) (any_of HT_.out (by kernel_rfl)) ?_
       refine pst (i := 16) (N := some 62) (bz 29 131071) (any_of HT_.out (by kernel_rfl)) ?_
       refine pst (i := 17) (N := some 63) (bz 29 262143) (any_of HT_.out (by kernel_rfl)) ?_
       refine pst (i := 18) (N := some 64) (bz 29 524287) (any_of HT_.out (by kernel_rfl)) ?_
       refine pst (i := 19) (N := some 65) (bz 29 1048575) (any_of HT_.out (by kernel_rfl)) ?_
       refine pst (i := 20) (N := some 66) (bz 29 2097151) (any_of HT_.out (by kernel_rfl)) ?_
       refine pst (i := 21) (N := some 67) (bz 29 4194303) (any_of HT_.out (by kernel_rfl)) ?_
       refine pst (i := 22) (N := some 68) (bz 29 8388607) (any_of HT_.out (by kernel_rfl)) ?_
       refine one_ (i := 23) (N := some 69) #[true, true, true, true, true, true, true, true, true, true, true, true, true, true, true, true, true, true, true, true, true, true, true, true, false, false, false, false, false] rfl rfl (one_of HT_.out (by kernel_rfl)) (by decide) (fun K hK => ?_)
       refine goes_ Try.func27 (by kernel_rfl) rfl #[.slice Ao47 t507.length co47, .slice Ao48 t511.length co48] (by rfl) rfl rfl mapz ?_
       with_reducible refine (dropperlaw06_SameInts.calls k _ _ t507 _ _ t511 true _ ?side1 ?side2 ?side3 ?side4 A25.out).mono ?_
       (case side1 => repeat (first | exact (Kd.R_reads' HO509.out).2.2 | (with_reducible refine Kd.C_alloc ?_ _) | (with_reducible refine Kd.C_drewN ?_ _) | (with_reducible refine Kd.C_drew ?_)))
       (case side2 => exact (Kd.R_reads' HO509.out).2.1)
       (case side3 => repeat (first | exact (Kd.R_reads' HO513.out).2.2 | (with_reducible refine Kd.C_alloc ?_ _) | (with_reducible refine Kd.C_drewN ?_ _) | (with_reducible refine Kd.C_drew ?_)))
       (case side4 => exact (Kd.R_reads' HO513.out).2.1)
       rintro e w' ⟨rfl, ⟨nd, rfl⟩⟩
       refine ⟨_, rfl, ?_⟩
       refine hK.out _ _ ⟨(blk_cell BK493.out 0).trans rfl, (blk_cell BK493.out 1).trans rfl⟩ (fun hHeld => ?_)
       clear hK K
       refine norm_ (a' := ?_) ?_ ?_
       rotate_left
       ·
        show Act.put _ (some 69) _ = _
        simp only [Act.put, List.setIfInBounds_toArray, List.set_cons_zero, List.set_cons_succ, i64_w, i32_w]
        rfl
       refine pst (i := 24) (N := some 70) (bz 29 33554431) (any_of HT_.out (by kernel_rfl)) ?_
       refine pst (i := 25) (N := some 71) (bz 29 67108863) (any_of HT_.out (by kernel_rfl)) ?_
       refine one_ (i := 26) (N := some 72) #[true, true, true, true, true, true, true, true, true, true, true, true, true, true, true, true, true, true, true, true, true, true, true, true, true, true, true, false, false] rfl rfl (one_of HT_.out (by kernel_rfl)) (by decide) (fun K hK => ?_)
       refine goes_ Try.func15 (by kernel_rfl) rfl #[] (by rfl) rfl rfl mapz ?_
       with_reducible refine (dropperlaw06_Awake.calls k  t519 _ A27.out).mono ?_
       rintro e w49 ⟨rfl, hb⟩
       refine ⟨_, rfl, ?_⟩
       have n0_ := Aside0.mk (Kd.V_below (by (with_reducible repeat (first | apply Kd.V_alloc | apply Kd.V_drewN | apply Kd.V_drew)); exact HO1.out) hb)
       have n1_ := Aside0.mk (Kd.N_below (by (with_reducible repeat (first | apply Kd.N_alloc | apply Kd.N_drewN | apply Kd.N_drew)); exact HO496.out) hb)
       have n2_ := Aside0.mk (Kd.R_below (ownx HO501) hb)
       have n3_ := Aside0.mk (Kd.R_below (ownx HO505) hb)
       have n4_ := Aside0.mk (Kd.R_below (ownx HO509) hb)
       have n5_ := Aside0.mk (Kd.R_below (ownx HO513) hb)
       have n6_ := Aside0.mk (blk_below (g := gb493) blkz hb)
       have n7_ := Aside0.mk (below_step bel hb)
       clear HO1
       clear HO496
       clear HO501
       clear HO505
       clear HO509
       clear HO513
       clear BK493
       clear HB
       have HO1 := n0_
       have HO496 := n1_
       have HO501 := n2_
       have HO505 := n3_
       have HO509 := n4_
       have HO513 := n5_
       have BK493 := n6_
       have HB := n7_
       clear n0_ n1_ n2_ n3_ n4_ n5_ n6_ n7_
       (try clear hb)
       (try clear hb2)
       (try clear hk)
       (try clear hi)
       refine hK.out _ _ ⟨(blk_cell BK493.out 0).trans rfl, (blk_cell BK493.out 1).trans rfl⟩ (fun hHeld => ?_)
       clear hK K
       refine norm_ (a' := ?_) ?_ ?_
       rotate_left
       ·
        show Act.put _ (some 72) _ = _
        simp only [Act.put, List.setIfInBounds_toArray, List.set_cons_zero, List.set_cons_succ, i64_w, i32_w]
        rfl
       refine pst (i := 27) (N := some 73) (bz 29 268435455) (any_of HT_.out (by kernel_rfl)) ?_
       refine pst (i := 28) (N := some 6) (bz 29 536870911) (any_of HT_.out (by kernel_rfl)) ?_
       refine done_ (done_of HT_.out (by kernel_rfl)) ?_
       try go_wp2
       go_ret
       exact ⟨ezz, bel⟩
      ·
       replace c26 := Bool.eq_false_iff.mpr c26
       subst c26
       rw [if_neg (show ¬ (false = true) by decide)] at H
       exact absurd H (by simp)
     ·
      rw [if_neg c24] at H
      have c24b0 : (t510 == t514) = false := beq_eq_false_iff_ne.mpr c24
      have c24b1 : (t510 != t514) = true := bne_iff_ne.mpr c24
      exact absurd H (by simp)
    ·
     replace c23 := Bool.eq_false_iff.mpr c23
     subst c23
     rw [if_neg (show ¬ (false = true) by decide)] at H
     exact absurd H (by simp)
   ·
    rw [if_neg c21] at H
    have c21b0 : (t502 == t506) = false := beq_eq_false_iff_ne.mpr c21
    have c21b1 : (t502 != t506) = true := bne_iff_ne.mpr c21
    exact absurd H (by simp)
  ·
   rw [if_neg c20] at H
   have c20b0 : (t515 == t516) = false := by simpa using c20
   (try (have c20b1 : decide (t515 = t516) = false := by simpa using c20))
   (try (have c20b2 : (t515 == t516) = false := by simpa using c20))
   (try (have c20b3 : ¬ (t515 = t516) := by simpa using c20))
   clear c20
   exact absurd H (by simp)

end Go.Proofs.Ytgdfakmlpdeabaa.XKey
-- Written by wip/xprint.py of this repo, over the kit's print.py: out of the translation; the oracles in it are by hand. Not trusted: Lean checks it.
namespace Go.Proofs.Ytgdfakmlpdeabaa.XKey
open Go.RowKit Go.Proofs.Ytgdfakmlpdeabaa.XKey Go.Proofs.YtgdfakmlpdeabaaW.PrintWords Go.Proofs.YtgdfakmlpdeabaaW.PrintLast Go.Proofs.YtgdfakmlpdeabaaW.PrintMore
def dropperlaw06_KeyCans.Pure : Prop := ∀ (a0_0 : Int) (l0_1 : List (S64)) (l1 : List Int) (a2 : Int), ((Lit.int .i64 a0_0).wf = true) → (l0_1.length ≤ 9223372036854775807 ∧ ∀ y0 ∈ l0_1, (y0.f0.length ≤ 9223372036854775807 ∧ ∀ y1 ∈ y0.f0, (Lit.int .i64 y1).wf = true) ∧ (y0.f1.length ≤ 9223372036854775807 ∧ ∀ y1 ∈ y0.f1, (Lit.int .i64 y1).wf = true)) → (l1.length ≤ 9223372036854775807 ∧ ∀ y0 ∈ l1, (Lit.int .i64 y0).wf = true) → ((Lit.int .i64 a2).wf = true) → ∃ k, dropperlaw06_KeyCans.f k a0_0 l0_1 l1 a2 = some true
end Go.Proofs.Ytgdfakmlpdeabaa.XKey

/- What can be done on a board, and one move: program and reference answer the same. -/
namespace Go.Proofs.Ytgdfakmlpdeabaa.Pure
set_option linter.unusedVariables false
set_option linter.unusedSimpArgs false
open Go.RowKit Go.Proofs.Ytgdfakmlpdeabaa.XKey Go.Proofs.YtgdfakmlpdeabaaW.PrintWords Go.Proofs.YtgdfakmlpdeabaaW.PrintLast Go.Proofs.YtgdfakmlpdeabaaW.PrintMore
open Go.Proofs.Ytgdfakmlpdeabaa.Keys
theorem KeyCans : dropperlaw06_KeyCans.Pure := by
 intro n ts l a _ ht hl _
 have hf : Fits ts := ⟨ht.1, fun t h => ⟨(ht.2 t h).1.1, (ht.2 t h).2.1⟩⟩
 refine Ev.rounds (r := true) (g := fun k => dropperlaw06_KeyCans.f k n ts l a) ?_
 unfold dropperlaw06_KeyCans.f
 obtain ⟨b, hb⟩ := large_ev n ts [l] hf.1 (by simp)
 refine ev_bind1 hb ?_
 cases b with
 | true => exact ev_pos rfl (ev_bind1 awake_ev (Ev.now _))
 | false =>
  refine ev_neg (by decide) (ev_bind1 (Can_ev n ts l) (ev_bind1 (rCan_ev n ts l hf hl.1) (ev_val (Make_val n ts l a) (ev_bind1 (rMake_ev n ts l a hf hl.1) (ev_val (Valid_val n ts) (ev_bind1 (rValid_ev n ts hf) ?_))))))
  refine ev_pos (by simp) (ev_pos rfl (ev_bind1 (same_refl _ ?_) (ev_pos rfl (ev_pos rfl (ev_bind1 (same_refl _ ?_) (ev_pos rfl (ev_bind1 awake_ev (Ev.now _))))))))
  ·
   exact CanS_len n ts l
  ·
   exact AfterS_len n ts l [a] hl.1
end Go.Proofs.Ytgdfakmlpdeabaa.Pure

-- Written by wip/xprint.py of this repo, over the kit's print.py: out of the translation; the oracles in it are by hand. Not trusted: Lean checks it.
namespace Go.Proofs.Ytgdfakmlpdeabaa.keyCans
open Go.ChangeShapes Go.WideShapes Go.ChangeAt Go.RowKit Go.Proofs.Ytgdfakmlpdeabaa.Open Go.Proofs.Ytgdfakmlpdeabaa.XKey Go.Proofs.YtgdfakmlpdeabaaW.PrintWords Go.Proofs.YtgdfakmlpdeabaaW.PrintLast Go.Proofs.YtgdfakmlpdeabaaW.PrintMore
open Go.ChangeMaps (open_string shut_string)
set_option linter.unusedVariables false
set_option linter.unusedSimpArgs false
theorem own : ownKnob Try.prog.godebug = none := by kernel_rfl
theorem laidOut : laidOutB Try.prog = true := by kernel_rfl
set_option maxHeartbeats 8000000 in
set_option maxRecDepth 100000 in
theorem lifted (os : Os) (started : os.Started) (H : Type) (enc : TypeId × Value → H) :
  ReturnsInHanded {} Try.checked os 7 .any (Rows.keyCansSpec.pre6 enc Try.prog Try.f7 Rows.keyCansRow.domain false) (Rows.keyCansSpec.post enc Try.prog Try.f7 false true false false) := by
 refine returnsInHanded_of_change_sized (C := Try.checked) own started (by kernel_rfl) Try.func7
  (ChangeSpec.witness6 (enc := enc) (C := Try.checked) false ⟨#[], #[.agg #[.int .i64 0, .slice none 0 0], .slice none 0 0, .int .i64 0], []⟩ 8 (by kernel_rfl) (by kernel_rfl) (by kernel_rfl) (by kernel_rfl)) ?_
 intro W base args ds gs before hval0 hW hcnd hsz0 _
 have hval : ∀ (j : Nat) t v, Try.f7.params[j]? = some t → args[j]? = some v → Value.okWide Try.prog W .any base t v := hval0
 have hW' := hW
 obtain ⟨p, q, hA0, hV, rfl, hfz, hnd⟩ := hW
 have hA : DataW.TrodAll enc Try.prog W 0 (fun _ => true) true Try.f7.params.toList args.toList ds p := hA0
 rw [Try.params7] at hA hval
 obtain ⟨v0, vs0, d0, ds0, p0, q0, hargs, rfl, rfl, h0, r0⟩ := trodAll_cons hA
 obtain ⟨v1, vs1, d1, ds1, p1, q1, rfl, rfl, rfl, h1, r1⟩ := trodAll_cons r0
 obtain ⟨v2, vs2, d2, ds2, p2, q2, rfl, rfl, rfl, h2, r2⟩ := trodAll_cons r1
 obtain ⟨rfl, rfl, rfl⟩ := trodAll_nil r2
 obtain rfl : args = #[v0, v1, v2] := by cases args; simp_all
 obtain ⟨rfl, rfl⟩ := trodVars_none hV
 obtain ⟨cs0, rfl, hz0⟩ := okWide_struct Try.underlying24 (hval 0 24 v0 rfl rfl)
 have k0 := h0
 have lt0 : ∀ x ∈ p0, x.block < W.heap.size := by obtain ⟨m, hm⟩ := k0; exact DataW.trod_lt m _ _ _ hm
 obtain ⟨fuel0, hf0⟩ := h0
 obtain ⟨⟨u0_0, u0_1⟩, hK0, hG0⟩ := (opens_struct Try.underlying24 (by kernel_rfl) (opensF_cons rfl (by kernel_rfl) (opens_int Try.underlying3) (opensF_one rfl (by kernel_rfl) (opens_slice Try.underlying22 (opens_iso (f := fun x : S64 => (x.f0, x.f1)) (fun p => ⟨p.1, p.2⟩) (fun _ => rfl) (opens_struct Try.underlying64 (by kernel_rfl) (opensF_cons rfl (by kernel_rfl) (opens_slice Try.underlying25 (opens_int Try.underlying3) (by kernel_rfl)) (opensF_one rfl (by kernel_rfl) (opens_slice Try.underlying25 (opens_int Try.underlying3) (by kernel_rfl)))))) (by kernel_rfl))))) H enc W fuel0 _ _ hf0
 obtain ⟨c0_0, r0_0, e0_0, hk0_0, hk0_1⟩ := hK0
 obtain ⟨g0_0, g0_1⟩ := hG0
 have hq0_0 := hk0_0
 obtain ⟨A0_1, q0_1, hq0_1, hc0_1, hr0_1⟩ := hk0_1
 have hq0_0' : c0_0 = _ := hq0_0
 obtain rfl : cs0 = #[.int .i64 u0_0, .slice A0_1 u0_1.length q0_1] := by
  have h_ := agg_of (l := [.int .i64 u0_0, .slice A0_1 u0_1.length q0_1]) (cs := cs0) (by rw [e0_0, hq0_0', hq0_1]; rfl)
  exact h_
 obtain ⟨b1, len1, cap1, rfl⟩ := okWide_slice Try.underlying25 (hval 1 25 v1 rfl rfl)
 have k1 := h1
 have lt1 : ∀ x ∈ p1, x.block < W.heap.size := by obtain ⟨m, hm⟩ := k1; exact DataW.trod_lt m _ _ _ hm
 obtain ⟨fuel1, hf1⟩ := h1
 obtain ⟨l1, ⟨A1, c1, hcs1, hc1, hr1⟩, hg1⟩ := (opens_slice Try.underlying25 (opens_int Try.underlying3) (by kernel_rfl)) H enc W fuel1 _ _ hf1
 simp [Value.cells] at hcs1
 obtain ⟨rfl, rfl, rfl⟩ := hcs1
 obtain ⟨a2, rfl, rfl, rfl, w2⟩ := open_int Try.underlying3 (hval 2 3 v2 rfl rfl) h2
 clear hA0 hval0 hsz0
 obtain ⟨k, h⟩ := Pure.KeyCans u0_0 u0_1 l1 a2 g0_0 g0_1 hg1 w2
 refine (dropperlaw06_KeyCans.calls k u0_0 _ _ u0_1 (fun k_ => k_ < W.heap.size) _ _ l1 a2 true W hr0_1 hc0_1 (Kd.V_mk hc1 (Kd.C_F (Kd.heap_int .i64) hr1)) h).mono fun e W' ⟨he, bel0⟩ => ?_
 have bel : Below W.heap.size W W' := bel0
 subst he
 exact ⟨_, rfl, _, _, _, [], _, [], hW', trodAll_mk1 (shut_bool Try.underlying4 _), (trodAll_cons_mk (Below.trod laidOut (by kernel_rfl) (of_decide_eq_true (by kernel_rfl)) k0 bel lt0) (trodAll_cons_mk (Below.trod laidOut (by kernel_rfl) (of_decide_eq_true (by kernel_rfl)) k1 bel lt1) (trodAll_cons_mk (shut_int Try.underlying3 w2) trodAll_mk0))), rfl, bel.frame _, fun h => by cases h⟩
theorem over : Rows.keyCansRow.holds Try.pinned (OpenSpec.ofChange Rows.keyCansSpec) :=
 OpenClaim.holds_of_wide 7 Try.f7 rfl rfl rfl rfl rfl rfl rfl ⟨rfl, rfl, rfl, rfl, rfl⟩ rfl rfl rfl rfl rfl (by kernel_rfl) Try.func7 (by kernel_rfl)
  (of_decide_eq_true (by kernel_rfl)) (by unfold Func.isWrapper; first | (rw [if_pos (by decide +kernel)]; kernel_rfl) | (rw [if_neg (by decide +kernel)]; exact ⟨rfl, rfl⟩))
  (fun os started H enc _ => lifted os started H enc)
theorem proved : Rows.KeyCansSaid := over
#print axioms proved
end Go.Proofs.Ytgdfakmlpdeabaa.keyCans
namespace Go.Proofs.Ytgdfakmlpdeabaa
theorem keyCans_holds : Rows.KeyCansSaid := keyCans.proved
end Go.Proofs.Ytgdfakmlpdeabaa
