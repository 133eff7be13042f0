-- Written by wip/pack.py of this repo: texts of this claim, put together.
import Derived.Test.YtgdfakmlpdeabaaRows
import Derived.WalkKit
import Derived.ProofKit
import Derived.OpenShut
import Derived.ShutString
import Derived.ChangeOld
import Derived.Below
import Derived.SizedLaws
import Derived.Test.YtgdfakmlpdeabaaKKeyg
namespace Go.Proofs.Ytgdfakmlpdeabaa.XKey
open Go.RowKit Go.Proofs.YtgdfakmlpdeabaaW.PrintWords Go.Proofs.YtgdfakmlpdeabaaW.PrintLast Go.Proofs.YtgdfakmlpdeabaaW.PrintMore
attribute [local go_sem] max2_int min2_int max_two min_two max_three min_three max_four min_four   -- for this text's walks alone
set_option linter.unusedVariables false
set_option linter.unusedSimpArgs false
/-! ### dropperlaw06_KeyTurns: function 6 -/
def dropperlaw06_KeyTurns.j0 : Nat → List Int → Int → Bool → Int → List (S64) → Int → List (S64) → Option (Bool)
 | 0, _, _, _, _, _, _, _ => none
 | k + 1, x1, x6, x36, x392000, x392001, x403000, x403001 => if x36 = true then (none) else (if x6 = 0 then ((key_Turned.f k x403000 x403001).bind fun bt411 => ((key_Holds.f k x392000 x392001 x1).bind fun bt417 => ((key_Holds.f k x403000 x403001 x1).bind fun bt419 => (if bt411.2.2 = 0 then ((dropperlaw06_sameBoards.f k bt411.1 bt411.2.1 x392000 x392001).bind fun t421 => (if t421 = true then (if bt417.2 = bt419.2 then (if (bt417.1 == bt419.1) = true then ((dropperlaw06_Awake.f k).bind fun t422 => (some t422)) else (none)) else (none)) else (none))) else (none))))) else ((dropperlaw06_Awake.f k).bind fun t410 => (some t410)))
def dropperlaw06_KeyTurns.f (k : Nat) (a0_0 : Int) (l0_1 : List (S64)) (l1 : List Int) : Option (Bool) := (dropperlaw06_Large.f k a0_0 l0_1 (([l1] : List (List Int)))).bind fun t395 => (if t395 = true then ((dropperlaw06_Awake.f k).bind fun t396 => (some t396)) else ((key_Turned.f k a0_0 l0_1).bind fun bt397 => ((dropperref06_Turned.f k a0_0 l0_1).bind fun bt403 => (if bt397.2.2 = bt403.2.2 then ((dropperlaw06_sameBoards.f k bt397.1 bt397.2.1 bt403.1 bt403.2.1).bind fun t409 => (dropperlaw06_KeyTurns.j0 k l1 bt397.2.2 (!t409) a0_0 l0_1 bt397.1 bt397.2.1)) else (dropperlaw06_KeyTurns.j0 k l1 bt397.2.2 true a0_0 l0_1 bt397.1 bt397.2.1)))))
set_option maxHeartbeats 8000000 in
set_option maxRecDepth 100000 in
theorem dropperlaw06_KeyTurns.calls (k : Nat) (a0_0 : Int) (A0_1 : Option Addr) (c0_1 : Nat) (l0_1 : List (S64)) (P1_ : Nat → Prop) (A1 : Option Addr) (c1 : Nat) (l1 : List Int) (r : Bool) (w : World) (hr0_1 : Kd.C k64 w A0_1 l0_1.length l0_1) (hc0_1 : l0_1.length ≤ c0_1) (hs1 : Kd.V (Kd.int .i64) 3 w w.heap.size (fun k_ => P1_ k_) (.slice A1 l1.length c1) l1) (h : dropperlaw06_KeyTurns.f k a0_0 l0_1 l1 = some r) :
  Calls Try.prog 6 #[.agg #[.int .i64 a0_0, .slice A0_1 l0_1.length c0_1], .slice A1 l1.length c1] w fun e w' => e = .returned (.bool r) ∧ Below w.heap.size w w' := by
 have hu24 := Try.underlying24
 have HR0_1 := Aside0.mk hr0_1
 have HC0_1 := Aside0.mk hc0_1
 clear hr0_1 hc0_1
 have HO1 := Aside0.mk (show Kd.V (Kd.int .i64) 3 w w.heap.size (fun k_ => (P1_ k_ ∨ w.heap.size ≤ k_)) (.slice A1 l1.length c1) l1 from Kd.V_mono hs1 (fun k_ hk => .inl hk))
 have HB := Aside0.mk (Below.refl w.heap.size w)
 have H : ((dropperlaw06_Large.f k a0_0 l0_1 (([l1] : List (List Int)))).bind fun t395 => (if t395 = true then ((dropperlaw06_Awake.f k).bind fun t396 => (some t396)) else ((key_Turned.f k a0_0 l0_1).bind fun bt397 => ((dropperref06_Turned.f k a0_0 l0_1).bind fun bt403 => (if bt397.2.2 = bt403.2.2 then ((dropperlaw06_sameBoards.f k bt397.1 bt397.2.1 bt403.1 bt403.2.1).bind fun t409 => (dropperlaw06_KeyTurns.j0 k l1 bt397.2.2 (!t409) a0_0 l0_1 bt397.1 bt397.2.1)) else (dropperlaw06_KeyTurns.j0 k l1 bt397.2.2 true a0_0 l0_1 bt397.1 bt397.2.1)))))) = some r := h
 clear h
 obtain ⟨y392, hy392⟩ : ∃ y_ : List (List Int), y_ = (([l1] : List (List Int))) := ⟨_, rfl⟩
 replace H : ((dropperlaw06_Large.f k a0_0 l0_1 y392).bind fun t395 => (if t395 = true then ((dropperlaw06_Awake.f k).bind fun t396 => (some t396)) else ((key_Turned.f k a0_0 l0_1).bind fun bt397 => ((dropperref06_Turned.f k a0_0 l0_1).bind fun bt403 => (if bt397.2.2 = bt403.2.2 then ((dropperlaw06_sameBoards.f k bt397.1 bt397.2.1 bt403.1 bt403.2.1).bind fun t409 => (dropperlaw06_KeyTurns.j0 k l1 bt397.2.2 (!t409) a0_0 l0_1 bt397.1 bt397.2.1)) else (dropperlaw06_KeyTurns.j0 k l1 bt397.2.2 true a0_0 l0_1 bt397.1 bt397.2.1)))))) = some r := by first | (rw [hy392]; with_reducible exact H) | (have H2_ := (Option.bind_some _ _).symm.trans H; rw [hy392]; with_reducible exact H2_) | (have H2_ := (Option.bind_some _ _).symm.trans H; with_reducible exact H2_) | with_reducible exact H | (rw [hy392]; exact H) | exact H
 have Ny392 := Aside0.mk hy392
 clear hy392
 replace H := Option.bind_eq_some_iff.mp H
 obtain ⟨t395, A30, H⟩ := H
 try dsimp only at H
 have A3 := Aside0.mk A30
 clear A30
 by_cases c4 : t395 = true
 ·
  subst c4
  rw [if_pos rfl] at H
  replace H := Option.bind_eq_some_iff.mp H
  obtain ⟨t396, A50, H⟩ := H
  try dsimp only at H
  have A5 := Aside0.mk A50
  clear A50
  obtain rfl := Option.some.inj H
  go_enter Try.func6, Try.ntmps6
  go_wp2_with (first | ((with_reducible refine gate_dst (N := 2) rfl ?_); refine box_event ?hg (N := 2) ?hd (cs := #[.int .i64 a0_0, .slice A0_1 l0_1.length c0_1]) (t := 24) ?hr ?_; (case hd => rfl); (case hg => rfl); (case hr => first | (go_simp; done) | (go_simp; rfl)); intro gb391 hg w6 hbox hb; have BK391 := Aside0.mk (hbox); have GW391 := bsz (w := w) hg; have GE391 := GW391; replace HO1 := Aside0.mk (Kd.V_below (Kd.V_elderB (by (with_reducible repeat (first | apply Kd.V_alloc | apply Kd.V_drewN | apply Kd.V_drew)); exact HO1.out) gb391 (Nat.le_of_eq hg.symm)) hb); replace HB := Aside0.mk (below_step bel hb); clear hb hbox hg; obtain ⟨hcz7_0, hcz7_1⟩ := bc2 BK391.out) | ((with_reducible refine gate_dst (N := 15) rfl ?_); refine Kd.N_lit (Kd.slice 3 (Kd.int .i64)) _ 25 ?hg (N' := 15) ?hd (xs := ([l1] : List (List Int))) (inner := [.slice A1 l1.length c1]) (ok := (fun k_ => (P1_ k_ ∨ w.heap.size ≤ k_) ∧ k_ ≠ gb391)) (okp := (fun k_ => (P1_ k_ ∨ w.heap.size ≤ k_) ∧ k_ ≠ gb391)) ?hr ?hp (fun _ hk => hk) ((show ∀ k_, w6.heap.size ≤ k_ → (fun k_ => (P1_ k_ ∨ w.heap.size ≤ k_) ∧ k_ ≠ gb391) k_ from fun k_ hk => ⟨(.inr (Nat.le_trans (below_size bel) hk)), Kd.freshB (g := gb391) (o := .cells #[.int .i64 a0_0, .slice A0_1 l0_1.length c0_1] 24 (0, 0)) blkz k_ hk⟩) _ (Nat.le_refl _)) (Below.refl _ _) (Nat.le_refl _) (by simp) ?_; (case hd => rfl); (case hg => rfl); (case hr => first | (go_simp; done) | (go_simp; rfl)); (case hp => exact (Reps.one (show Kd.FK (Kd.slice 3 (Kd.int .i64)) _ _ l1 [.slice A1 l1.length c1] from (Kd.FK_slice_mk (Kd.V_reads' (Kd.V_mono (ok' := (fun k_ => (P1_ k_ ∨ w.heap.size ≤ k_) ∧ k_ ≠ gb391)) (HO1.out) (fun k_ hk => ⟨hk.1, hk.2⟩))).2.1 (Kd.V_F (Kd.V_mono (ok' := (fun k_ => (P1_ k_ ∨ w.heap.size ≤ k_) ∧ k_ ≠ gb391)) (HO1.out) (fun k_ hk => ⟨hk.1, hk.2⟩))))) (Reps.none _ _))); intro v393 w8 ho9 hb hg_ hnew_; clear hg_ hnew_; (first | rw [← Ny392.out] at ho9 | (simp only [Int.reduceToNat] at ho9; rw [← Ny392.out] at ho9)); have HO394 := Aside0.mk (Kd.N_lower ho9 (below_size bel)); replace HO1 := Aside0.mk (Kd.V_elder' (by (with_reducible repeat (first | apply Kd.V_alloc | apply Kd.V_drewN | apply Kd.V_drew)); exact HO1.out) (by first | exact Kd.N_base ho9 | exact Kd.S_base ho9) hb); replace BK391 := Aside0.mk (blk_below (g := gb391) blkz hb); replace HB := Aside0.mk (below_step bel hb); clear hb ho9; obtain ⟨Ao10, co10, eo10⟩ := Kd.N_slice HO394.out; subst eo10) | ((with_reducible refine gate_callee (f := 29) rfl ?_); refine goesL_ (some 16) rfl rfl Try.func29 (by kernel_rfl) rfl #[.agg #[.int .i64 a0_0, .slice A0_1 l0_1.length c0_1], .slice Ao10 y392.length co10] rfl mapz ?_; (with_reducible refine (dropperlaw06_Large.calls k a0_0 _ _ l0_1 _ _ y392 true _ (cbz HR0_1) HC0_1.out ?side3 ?side4 A3.out).mono ?_); (case side3 => repeat (first | exact (Kd.N_reads' HO394.out).2.2 | (with_reducible refine Kd.C_alloc ?_ _) | (with_reducible refine Kd.C_drewN ?_ _) | (with_reducible refine Kd.C_drew ?_))); (case side4 => exact (Kd.N_reads' HO394.out).2.1); rintro e w11 ⟨rfl, hb⟩; refine ⟨_, rfl, ?_⟩; replace HO1 := Aside0.mk (Kd.V_below (by (with_reducible repeat (first | apply Kd.V_alloc | apply Kd.V_drewN | apply Kd.V_drew)); exact HO1.out) hb); replace HO394 := Aside0.mk (Kd.N_below (by (with_reducible repeat (first | apply Kd.N_alloc | apply Kd.N_drewN | apply Kd.N_drew)); exact HO394.out) hb); replace BK391 := Aside0.mk (blk_below (g := gb391) blkz hb); replace HB := Aside0.mk (below_step bel hb); clear hb) | ((with_reducible refine gate_callee (f := 15) rfl ?_); refine goesL_ (some 17) rfl rfl Try.func15 (by kernel_rfl) rfl #[] rfl mapz ?_; (with_reducible refine (dropperlaw06_Awake.calls k  t396 _ A5.out).mono ?_); rintro e w12 ⟨rfl, hb⟩; refine ⟨_, rfl, ?_⟩; replace HO1 := Aside0.mk (Kd.V_below (by (with_reducible repeat (first | apply Kd.V_alloc | apply Kd.V_drewN | apply Kd.V_drew)); exact HO1.out) hb); replace HO394 := Aside0.mk (Kd.N_below (by (with_reducible repeat (first | apply Kd.N_alloc | apply Kd.N_drewN | apply Kd.N_drew)); exact HO394.out) hb); replace BK391 := Aside0.mk (blk_below (g := gb391) blkz hb); replace HB := Aside0.mk (below_step bel hb); clear hb))
  go_ret
  exact ⟨ezz, bel⟩
 ·
  replace c4 := Bool.eq_false_iff.mpr c4
  subst c4
  rw [if_neg (show ¬ (false = true) by decide)] at H
  replace H := Option.bind_eq_some_iff.mp H
  obtain ⟨⟨t397, t398, t401⟩, A130, H⟩ := H
  try dsimp only at H
  have A13 := Aside0.mk A130
  clear A130
  replace H := Option.bind_eq_some_iff.mp H
  obtain ⟨⟨t403, t404, t407⟩, A140, H⟩ := H
  try dsimp only at H
  have A14 := Aside0.mk A140
  clear A140
  have HC15 := Aside0.mk H
  clear H
  go_enter Try.func6, Try.ntmps6
  go_upto_region 5 with (first | ((with_reducible refine gate_dst (N := 2) rfl ?_); refine box_event ?hg (N := 2) ?hd (cs := #[.int .i64 a0_0, .slice A0_1 l0_1.length c0_1]) (t := 24) ?hr ?_; (case hd => rfl); (case hg => rfl); (case hr => first | (go_simp; done) | (go_simp; rfl)); intro gb391 hg w16 hbox hb; have BK391 := Aside0.mk (hbox); have GW391 := bsz (w := w) hg; have GE391 := GW391; replace HO1 := Aside0.mk (Kd.V_below (Kd.V_elderB (by (with_reducible repeat (first | apply Kd.V_alloc | apply Kd.V_drewN | apply Kd.V_drew)); exact HO1.out) gb391 (Nat.le_of_eq hg.symm)) hb); replace HB := Aside0.mk (below_step bel hb); clear hb hbox hg; obtain ⟨hcz17_0, hcz17_1⟩ := bc2 BK391.out) | ((with_reducible refine gate_dst (N := 15) rfl ?_); refine Kd.N_lit (Kd.slice 3 (Kd.int .i64)) _ 25 ?hg (N' := 15) ?hd (xs := ([l1] : List (List Int))) (inner := [.slice A1 l1.length c1]) (ok := (fun k_ => (P1_ k_ ∨ w.heap.size ≤ k_) ∧ k_ ≠ gb391)) (okp := (fun k_ => (P1_ k_ ∨ w.heap.size ≤ k_) ∧ k_ ≠ gb391)) ?hr ?hp (fun _ hk => hk) ((show ∀ k_, w16.heap.size ≤ k_ → (fun k_ => (P1_ k_ ∨ w.heap.size ≤ k_) ∧ k_ ≠ gb391) k_ from fun k_ hk => ⟨(.inr (Nat.le_trans (below_size bel) hk)), Kd.freshB (g := gb391) (o := .cells #[.int .i64 a0_0, .slice A0_1 l0_1.length c0_1] 24 (0, 0)) blkz k_ hk⟩) _ (Nat.le_refl _)) (Below.refl _ _) (Nat.le_refl _) (by simp) ?_; (case hd => rfl); (case hg => rfl); (case hr => first | (go_simp; done) | (go_simp; rfl)); (case hp => exact (Reps.one (show Kd.FK (Kd.slice 3 (Kd.int .i64)) _ _ l1 [.slice A1 l1.length c1] from (Kd.FK_slice_mk (Kd.V_reads' (Kd.V_mono (ok' := (fun k_ => (P1_ k_ ∨ w.heap.size ≤ k_) ∧ k_ ≠ gb391)) (HO1.out) (fun k_ hk => ⟨hk.1, hk.2⟩))).2.1 (Kd.V_F (Kd.V_mono (ok' := (fun k_ => (P1_ k_ ∨ w.heap.size ≤ k_) ∧ k_ ≠ gb391)) (HO1.out) (fun k_ hk => ⟨hk.1, hk.2⟩))))) (Reps.none _ _))); intro v393 w18 ho19 hb hg_ hnew_; clear hg_ hnew_; (first | rw [← Ny392.out] at ho19 | (simp only [Int.reduceToNat] at ho19; rw [← Ny392.out] at ho19)); have HO394 := Aside0.mk (Kd.N_lower ho19 (below_size bel)); replace HO1 := Aside0.mk (Kd.V_elder' (by (with_reducible repeat (first | apply Kd.V_alloc | apply Kd.V_drewN | apply Kd.V_drew)); exact HO1.out) (by first | exact Kd.N_base ho19 | exact Kd.S_base ho19) hb); replace BK391 := Aside0.mk (blk_below (g := gb391) blkz hb); replace HB := Aside0.mk (below_step bel hb); clear hb ho19; obtain ⟨Ao20, co20, eo20⟩ := Kd.N_slice HO394.out; subst eo20) | ((with_reducible refine gate_callee (f := 29) rfl ?_); refine goesL_ (some 16) rfl rfl Try.func29 (by kernel_rfl) rfl #[.agg #[.int .i64 a0_0, .slice A0_1 l0_1.length c0_1], .slice Ao20 y392.length co20] rfl mapz ?_; (with_reducible refine (dropperlaw06_Large.calls k a0_0 _ _ l0_1 _ _ y392 false _ (cbz HR0_1) HC0_1.out ?side3 ?side4 A3.out).mono ?_); (case side3 => repeat (first | exact (Kd.N_reads' HO394.out).2.2 | (with_reducible refine Kd.C_alloc ?_ _) | (with_reducible refine Kd.C_drewN ?_ _) | (with_reducible refine Kd.C_drew ?_))); (case side4 => exact (Kd.N_reads' HO394.out).2.1); rintro e w21 ⟨rfl, hb⟩; refine ⟨_, rfl, ?_⟩; replace HO1 := Aside0.mk (Kd.V_below (by (with_reducible repeat (first | apply Kd.V_alloc | apply Kd.V_drewN | apply Kd.V_drew)); exact HO1.out) hb); replace HO394 := Aside0.mk (Kd.N_below (by (with_reducible repeat (first | apply Kd.N_alloc | apply Kd.N_drewN | apply Kd.N_drew)); exact HO394.out) hb); replace BK391 := Aside0.mk (blk_below (g := gb391) blkz hb); replace HB := Aside0.mk (below_step bel hb); clear hb; obtain ⟨hcz22_0, hcz22_1⟩ := bc2 BK391.out) | ((with_reducible refine gate_callee (f := 37) rfl ?_); refine goesL_ (some 20) rfl rfl Try.func37 (by kernel_rfl) rfl #[.agg #[.int .i64 a0_0, .slice A0_1 l0_1.length c0_1]] rfl mapz ?_; (with_reducible refine (key_Turned.calls k a0_0 _ _ l0_1 t397 t398 t401 _ (cbz HR0_1) HC0_1.out A13.out).mono ?_); rintro e w23 ⟨v399, rfl, ho0, hb⟩; refine ⟨_, rfl, ?_⟩; have HO400 := Aside0.mk (Kd.N_lower (Kd.N_mono (ok' := fun k_ => (P1_ k_ ∨ w.heap.size ≤ k_) ∧ some k_ ≠ (.slice Ao20 y392.length co20 : Value).ownBlock ∧ k_ ≠ gb391) (Kd.S_N (Kd.S_bound ho0)) (fun k_ hk_ => ⟨(.inr (Nat.le_trans (below_size bel) hk_.2.1)), (Kd.fresh' (Kd.N_lt (by (with_reducible repeat (first | apply Kd.N_alloc | apply Kd.N_drewN | apply Kd.N_drew)); exact HO394.out)) k_ hk_.2.1), (Kd.freshB (g := gb391) (o := .cells #[.int .i64 a0_0, .slice A0_1 l0_1.length c0_1] 24 (0, 0)) blkz k_ hk_.2.1)⟩)) (below_size bel)); replace HO1 := Aside0.mk (Kd.V_elder' (by (with_reducible repeat (first | apply Kd.V_alloc | apply Kd.V_drewN | apply Kd.V_drew)); exact HO1.out) (by first | exact Kd.N_base ho0 | exact Kd.S_base ho0) hb); replace HO394 := Aside0.mk (Kd.N_elder' (by (with_reducible repeat (first | apply Kd.N_alloc | apply Kd.N_drewN | apply Kd.N_drew)); exact HO394.out) (by first | exact Kd.N_base ho0 | exact Kd.S_base ho0) hb); replace BK391 := Aside0.mk (blk_below (g := gb391) blkz hb); replace HB := Aside0.mk (below_step bel hb); (try clear hb); (try clear hb2); (try clear hk); (try clear hi); (try clear ho0)) | ((with_reducible refine gate_dst (N := 5) rfl ?_); refine box_event ?hg (N := 5) ?hd (cs := #[.int .i64 0, .slice none 0 0]) (t := 24) ?hr ?_; (case hd => rfl); (case hg => rfl); (case hr => first | (go_simp; done) | (go_simp; rfl)); intro gb402 hg w24 hbox hb; have BK402 := Aside0.mk (hbox); have GW402 := bsz (w := w) hg; have GE402 := GW402; have NB391_402 := neL (g := gb391) hg; have NB402_391 := neR (g := gb391) hg; replace HO1 := Aside0.mk (Kd.V_below (Kd.V_elderB (by (with_reducible repeat (first | apply Kd.V_alloc | apply Kd.V_drewN | apply Kd.V_drew)); exact HO1.out) gb402 (Nat.le_of_eq hg.symm)) hb); replace HO394 := Aside0.mk (Kd.N_below (Kd.N_elderB (by (with_reducible repeat (first | apply Kd.N_alloc | apply Kd.N_drewN | apply Kd.N_drew)); exact HO394.out) gb402 (Nat.le_of_eq hg.symm)) hb); replace HO400 := Aside0.mk (Kd.N_below (Kd.N_elderB (by (with_reducible repeat (first | apply Kd.N_alloc | apply Kd.N_drewN | apply Kd.N_drew)); exact HO400.out) gb402 (Nat.le_of_eq hg.symm)) hb); replace BK391 := Aside0.mk (blk_below (g := gb391) blkz hb); replace HB := Aside0.mk (below_step bel hb); clear hb hbox hg; have hnb25 := NB402_391.out; have hnc25 := NB391_402.out; obtain ⟨hcz26_0, hcz26_1⟩ := bc2 BK402.out; obtain ⟨hfz26_0, hfz26_1⟩ := bf2 BK402.out; obtain ⟨Ao27, co27, eo27⟩ := Kd.N_slice HO400.out; subst eo27; obtain ⟨hcz28_0, hcz28_1⟩ := bc2 BK391.out) | ((with_reducible refine gate_callee (f := 38) rfl ?_); refine goesL_ (some 25) rfl rfl Try.func38 (by kernel_rfl) rfl #[.agg #[.int .i64 a0_0, .slice A0_1 l0_1.length c0_1]] rfl mapz ?_; (with_reducible refine (dropperref06_Turned.calls k a0_0 _ _ l0_1 t403 t404 t407 _ (cbz HR0_1) HC0_1.out A14.out).mono ?_); rintro e w29 ⟨v405, rfl, ho0, hb⟩; refine ⟨_, rfl, ?_⟩; have HO406 := Aside0.mk (Kd.N_lower (Kd.N_mono (ok' := fun k_ => (P1_ k_ ∨ w.heap.size ≤ k_) ∧ some k_ ≠ (.slice Ao20 y392.length co20 : Value).ownBlock ∧ some k_ ≠ (.slice Ao27 t398.length co27 : Value).ownBlock ∧ k_ ≠ gb391 ∧ k_ ≠ gb402) (Kd.S_N (Kd.S_bound ho0)) (fun k_ hk_ => ⟨(.inr (Nat.le_trans (below_size bel) hk_.2.1)), (Kd.fresh' (Kd.N_lt (by (with_reducible repeat (first | apply Kd.N_alloc | apply Kd.N_drewN | apply Kd.N_drew)); exact (Kd.N_mono (Kd.N_far (p := ⟨gb402, 1, none⟩) (Kd.N_far (p := ⟨gb402, 0, none⟩) (Kd.N_mono HO394.out (fun k_ hk => (⟨hk, hk.2⟩ : _ ∧ k_ ≠ gb402))) (fun _ hk => hk.2) (.int .i64 t397)) (fun _ hk => hk.2) (.slice Ao27 t398.length co27)) (fun _ h_ => h_.1)))) k_ hk_.2.1), (Kd.fresh' (Kd.N_lt (by (with_reducible repeat (first | apply Kd.N_alloc | apply Kd.N_drewN | apply Kd.N_drew)); exact (Kd.N_mono (Kd.N_far (p := ⟨gb402, 1, none⟩) (Kd.N_far (p := ⟨gb402, 0, none⟩) (Kd.N_mono HO400.out (fun k_ hk => (⟨hk, hk.2⟩ : _ ∧ k_ ≠ gb402))) (fun _ hk => hk.2) (.int .i64 t397)) (fun _ hk => hk.2) (.slice Ao27 t398.length co27)) (fun _ h_ => h_.1)))) k_ hk_.2.1), (Kd.freshB (g := gb391) (o := .cells #[.int .i64 a0_0, .slice A0_1 l0_1.length c0_1] 24 (0, 0)) (by (with_reducible repeat (first | refine blk_drewN ?_ _ | refine blk_drew ?_ | refine blk_alloc ?_ _)); refine blk_far ?_ NB391_402.out _; (with_reducible repeat (first | refine blk_drewN ?_ _ | refine blk_drew ?_ | refine blk_alloc ?_ _)); refine blk_far ?_ NB391_402.out _; (with_reducible repeat (first | refine blk_drewN ?_ _ | refine blk_drew ?_ | refine blk_alloc ?_ _)); exact BK391.out) k_ hk_.2.1), (Kd.freshB (g := gb402) (o := .cells #[.int .i64 t397, .slice Ao27 t398.length co27] 24 (0, 0)) (by (with_reducible repeat (first | refine blk_drewN ?_ _ | refine blk_drew ?_ | refine blk_alloc ?_ _)); refine blk_put (cs := #[.int .i64 t397, .slice none 0 0]) ?_ 1 _ rfl; (with_reducible repeat (first | refine blk_drewN ?_ _ | refine blk_drew ?_ | refine blk_alloc ?_ _)); refine blk_put (cs := #[.int .i64 0, .slice none 0 0]) ?_ 0 _ rfl; (with_reducible repeat (first | refine blk_drewN ?_ _ | refine blk_drew ?_ | refine blk_alloc ?_ _)); exact BK402.out) k_ hk_.2.1)⟩)) (below_size bel)); replace HO1 := Aside0.mk (Kd.V_elder' (by (with_reducible repeat (first | apply Kd.V_alloc | apply Kd.V_drewN | apply Kd.V_drew)); exact (Kd.V_mono (Kd.V_far (p := ⟨gb402, 1, none⟩) (Kd.V_far (p := ⟨gb402, 0, none⟩) (Kd.V_mono HO1.out (fun k_ hk => (⟨hk, hk.2⟩ : _ ∧ k_ ≠ gb402))) (fun _ hk => hk.2) (.int .i64 t397)) (fun _ hk => hk.2) (.slice Ao27 t398.length co27)) (fun _ h_ => h_.1))) (by first | exact Kd.N_base ho0 | exact Kd.S_base ho0) hb); replace HO394 := Aside0.mk (Kd.N_elder' (by (with_reducible repeat (first | apply Kd.N_alloc | apply Kd.N_drewN | apply Kd.N_drew)); exact (Kd.N_mono (Kd.N_far (p := ⟨gb402, 1, none⟩) (Kd.N_far (p := ⟨gb402, 0, none⟩) (Kd.N_mono HO394.out (fun k_ hk => (⟨hk, hk.2⟩ : _ ∧ k_ ≠ gb402))) (fun _ hk => hk.2) (.int .i64 t397)) (fun _ hk => hk.2) (.slice Ao27 t398.length co27)) (fun _ h_ => h_.1))) (by first | exact Kd.N_base ho0 | exact Kd.S_base ho0) hb); replace HO400 := Aside0.mk (Kd.N_elder' (by (with_reducible repeat (first | apply Kd.N_alloc | apply Kd.N_drewN | apply Kd.N_drew)); exact (Kd.N_mono (Kd.N_far (p := ⟨gb402, 1, none⟩) (Kd.N_far (p := ⟨gb402, 0, none⟩) (Kd.N_mono HO400.out (fun k_ hk => (⟨hk, hk.2⟩ : _ ∧ k_ ≠ gb402))) (fun _ hk => hk.2) (.int .i64 t397)) (fun _ hk => hk.2) (.slice Ao27 t398.length co27)) (fun _ h_ => h_.1))) (by first | exact Kd.N_base ho0 | exact Kd.S_base ho0) hb); replace BK391 := Aside0.mk (blk_below (g := gb391) (o := .cells #[.int .i64 a0_0, .slice A0_1 l0_1.length c0_1] 24 (0, 0)) (by (with_reducible repeat (first | refine blk_drewN ?_ _ | refine blk_drew ?_ | refine blk_alloc ?_ _)); refine blk_far ?_ NB391_402.out _; (with_reducible repeat (first | refine blk_drewN ?_ _ | refine blk_drew ?_ | refine blk_alloc ?_ _)); refine blk_far ?_ NB391_402.out _; (with_reducible repeat (first | refine blk_drewN ?_ _ | refine blk_drew ?_ | refine blk_alloc ?_ _)); exact BK391.out) hb); replace BK402 := Aside0.mk (blk_below (g := gb402) (o := .cells #[.int .i64 t397, .slice Ao27 t398.length co27] 24 (0, 0)) (by (with_reducible repeat (first | refine blk_drewN ?_ _ | refine blk_drew ?_ | refine blk_alloc ?_ _)); refine blk_put (cs := #[.int .i64 t397, .slice none 0 0]) ?_ 1 _ rfl; (with_reducible repeat (first | refine blk_drewN ?_ _ | refine blk_drew ?_ | refine blk_alloc ?_ _)); refine blk_put (cs := #[.int .i64 0, .slice none 0 0]) ?_ 0 _ rfl; (with_reducible repeat (first | refine blk_drewN ?_ _ | refine blk_drew ?_ | refine blk_alloc ?_ _)); exact BK402.out) hb); replace HB := Aside0.mk (below_step bel hb); (try clear hb); (try clear hb2); (try clear hk); (try clear hi); (try clear ho0)) | ((with_reducible refine gate_dst (N := 7) rfl ?_); refine box_event ?hg (N := 7) ?hd (cs := #[.int .i64 0, .slice none 0 0]) (t := 24) ?hr ?_; (case hd => rfl); (case hg => rfl); (case hr => first | (go_simp; done) | (go_simp; rfl)); intro gb408 hg w30 hbox hb; have BK408 := Aside0.mk (hbox); have GW408 := bsz (w := w) hg; have GE408 := GW408; have NB391_408 := neL (g := gb391) hg; have NB408_391 := neR (g := gb391) hg; have NB402_408 := neL (g := gb402) hg; have NB408_402 := neR (g := gb402) hg; replace HO1 := Aside0.mk (Kd.V_below (Kd.V_elderB (by (with_reducible repeat (first | apply Kd.V_alloc | apply Kd.V_drewN | apply Kd.V_drew)); exact HO1.out) gb408 (Nat.le_of_eq hg.symm)) hb); replace HO394 := Aside0.mk (Kd.N_below (Kd.N_elderB (by (with_reducible repeat (first | apply Kd.N_alloc | apply Kd.N_drewN | apply Kd.N_drew)); exact HO394.out) gb408 (Nat.le_of_eq hg.symm)) hb); replace HO400 := Aside0.mk (Kd.N_below (Kd.N_elderB (by (with_reducible repeat (first | apply Kd.N_alloc | apply Kd.N_drewN | apply Kd.N_drew)); exact HO400.out) gb408 (Nat.le_of_eq hg.symm)) hb); replace HO406 := Aside0.mk (Kd.N_below (Kd.N_elderB (by (with_reducible repeat (first | apply Kd.N_alloc | apply Kd.N_drewN | apply Kd.N_drew)); exact HO406.out) gb408 (Nat.le_of_eq hg.symm)) hb); replace BK391 := Aside0.mk (blk_below (g := gb391) blkz hb); replace BK402 := Aside0.mk (blk_below (g := gb402) blkz hb); replace HB := Aside0.mk (below_step bel hb); clear hb hbox hg; have hnb31 := NB408_391.out; have hnc31 := NB391_408.out; have hnb32 := NB408_402.out; have hnc32 := NB402_408.out; obtain ⟨hcz33_0, hcz33_1⟩ := bc2 BK408.out; obtain ⟨hfz33_0, hfz33_1⟩ := bf2 BK408.out; obtain ⟨Ao34, co34, eo34⟩ := Kd.N_slice HO406.out; subst eo34))
  (try simp only [Act.put, List.setIfInBounds_toArray, List.set_cons_zero, List.set_cons_succ])
  go_cut [36] (fun v36 wc => ∃ (kq : Nat) (x36_14 : Bool), v36 = .bool x36_14 ∧ Aside0 (dropperlaw06_KeyTurns.j0 kq l1 t401 x36_14 a0_0 l0_1 t397 t398 = some r) ∧ Aside0 (kq ≤ k) ∧ Aside0 (Kd.V (Kd.int .i64) 3 wc w.heap.size (fun k_ => (P1_ k_ ∨ w.heap.size ≤ k_) ∧ some k_ ≠ ((.slice Ao27 t398.length co27) : Value).ownBlock ∧ some k_ ≠ ((.slice Ao34 t404.length co34) : Value).ownBlock ∧ k_ ≠ gb391 ∧ k_ ≠ gb402 ∧ k_ ≠ gb408) (.slice A1 l1.length c1) l1) ∧ Aside0 (Kd.N k64 64 wc w.heap.size (fun k_ => (P1_ k_ ∨ w.heap.size ≤ k_) ∧ some k_ ≠ ((.slice Ao34 t404.length co34) : Value).ownBlock ∧ k_ ≠ gb391 ∧ k_ ≠ gb402 ∧ k_ ≠ gb408) (.slice Ao27 t398.length co27) t398) ∧ Aside0 (Kd.N k64 64 wc w.heap.size (fun k_ => (P1_ k_ ∨ w.heap.size ≤ k_) ∧ some k_ ≠ ((.slice Ao27 t398.length co27) : Value).ownBlock ∧ k_ ≠ gb391 ∧ k_ ≠ gb402 ∧ k_ ≠ gb408) (.slice Ao34 t404.length co34) t404) ∧ Aside0 (wc.heap[gb391]? = some (.cells #[.int .i64 a0_0, (.slice A0_1 l0_1.length c0_1)] 24 (0, 0))) ∧ Aside0 (wc.heap[gb402]? = some (.cells #[.int .i64 t397, (.slice Ao27 t398.length co27)] 24 (0, 0))) ∧ Aside0 (wc.heap[gb408]? = some (.cells #[.int .i64 t403, (.slice Ao34 t404.length co34)] 24 (0, 0))) ∧ Aside0 (Below w.heap.size w wc))
  case first =>
   have H := HC15.out
   clear HC15
   by_cases c35 : t401 = t407
   ·
    rw [if_pos c35] at H
    have c35b0 : (t401 == t407) = true := beq_iff_eq.mpr c35
    have c35b1 : (t401 != t407) = false := bne_eq_false_iff_eq.mpr c35
    clear c35
    (first | rw [c35b0] | (simp only [i64_w, i32_w]; rw [c35b0]) | skip)
    replace H := Option.bind_eq_some_iff.mp H
    obtain ⟨t409, A360, H⟩ := H
    try dsimp only at H
    have A36 := Aside0.mk A360
    clear A360
    have H' := Aside0.mk H
    clear H
    have hnb37 := NB402_391.out
    have hnc37 := NB391_402.out
    have hnb38 := NB402_408.out
    have hnc38 := NB408_402.out
    obtain ⟨hcz39_0, hcz39_1⟩ := bc2 BK402.out
    obtain ⟨hfz39_0, hfz39_1⟩ := bf2 BK402.out
    have hnb40 := NB408_391.out
    have hnc40 := NB391_408.out
    obtain ⟨hcz41_0, hcz41_1⟩ := bc2 BK408.out
    obtain ⟨hfz41_0, hfz41_1⟩ := bf2 BK408.out
    go_wp2_with (first | (go_at_call 39; (with_reducible refine (dropperlaw06_sameBoards.calls k t397 _ _ t398 t403 _ _ t404 t409 _ ?side1 ?side2 ?side3 ?side4 A36.out).mono ?_); (case side1 => first | (refine (Kd.N_reads' (e := 64) (base := w.heap.size) (ok := fun k_ => (((((w.heap.size ≤ k_) ∧ (some k_ ≠ (.slice Ao20 y392.length co20 : Value).ownBlock ∧ k_ ≠ gb391)) ∧ k_ ≠ gb402) ∧ some k_ ≠ (.slice Ao34 t404.length co34 : Value).ownBlock) ∧ k_ ≠ gb408)) (n := t398.length) (c := co27) ?_).2.2; exact (by (with_reducible repeat (first | apply Kd.N_alloc | apply Kd.N_drewN | apply Kd.N_drew)); exact (Kd.N_mono (Kd.N_far (p := ⟨gb408, 1, none⟩) (Kd.N_far (p := ⟨gb408, 0, none⟩) (Kd.N_mono HO400.out (fun k_ hk => (⟨hk, hk.2⟩ : _ ∧ k_ ≠ gb408))) (fun _ hk => hk.2) (.int .i64 t403)) (fun _ hk => hk.2) (.slice Ao34 t404.length co34)) (fun _ h_ => h_.1)))) | (refine (Kd.N_reads' (e := 64) (base := w.heap.size) (ok := fun k_ => (((((P1_ k_ ∨ w.heap.size ≤ k_) ∧ (some k_ ≠ (.slice Ao20 y392.length co20 : Value).ownBlock ∧ k_ ≠ gb391)) ∧ k_ ≠ gb402) ∧ some k_ ≠ (.slice Ao34 t404.length co34 : Value).ownBlock) ∧ k_ ≠ gb408)) (n := t398.length) (c := co27) ?_).2.2; exact (by (with_reducible repeat (first | apply Kd.N_alloc | apply Kd.N_drewN | apply Kd.N_drew)); exact (Kd.N_mono (Kd.N_far (p := ⟨gb408, 1, none⟩) (Kd.N_far (p := ⟨gb408, 0, none⟩) (Kd.N_mono HO400.out (fun k_ hk => (⟨hk, hk.2⟩ : _ ∧ k_ ≠ gb408))) (fun _ hk => hk.2) (.int .i64 t403)) (fun _ hk => hk.2) (.slice Ao34 t404.length co34)) (fun _ h_ => h_.1))))); (case side2 => exact (Kd.N_reads' HO400.out).2.1); (case side3 => first | (refine (Kd.N_reads' (e := 64) (base := w.heap.size) (ok := fun k_ => (((w.heap.size ≤ k_) ∧ (some k_ ≠ (.slice Ao20 y392.length co20 : Value).ownBlock ∧ (some k_ ≠ (.slice Ao27 t398.length co27 : Value).ownBlock ∧ (k_ ≠ gb391 ∧ k_ ≠ gb402)))) ∧ k_ ≠ gb408)) (n := t404.length) (c := co34) ?_).2.2; exact (by (with_reducible repeat (first | apply Kd.N_alloc | apply Kd.N_drewN | apply Kd.N_drew)); exact (Kd.N_mono (Kd.N_far (p := ⟨gb408, 1, none⟩) (Kd.N_far (p := ⟨gb408, 0, none⟩) (Kd.N_mono HO406.out (fun k_ hk => (⟨hk, hk.2⟩ : _ ∧ k_ ≠ gb408))) (fun _ hk => hk.2) (.int .i64 t403)) (fun _ hk => hk.2) (.slice Ao34 t404.length co34)) (fun _ h_ => h_.1)))) | (refine (Kd.N_reads' (e := 64) (base := w.heap.size) (ok := fun k_ => (((P1_ k_ ∨ w.heap.size ≤ k_) ∧ (some k_ ≠ (.slice Ao20 y392.length co20 : Value).ownBlock ∧ (some k_ ≠ (.slice Ao27 t398.length co27 : Value).ownBlock ∧ (k_ ≠ gb391 ∧ k_ ≠ gb402)))) ∧ k_ ≠ gb408)) (n := t404.length) (c := co34) ?_).2.2; exact (by (with_reducible repeat (first | apply Kd.N_alloc | apply Kd.N_drewN | apply Kd.N_drew)); exact (Kd.N_mono (Kd.N_far (p := ⟨gb408, 1, none⟩) (Kd.N_far (p := ⟨gb408, 0, none⟩) (Kd.N_mono HO406.out (fun k_ hk => (⟨hk, hk.2⟩ : _ ∧ k_ ≠ gb408))) (fun _ hk => hk.2) (.int .i64 t403)) (fun _ hk => hk.2) (.slice Ao34 t404.length co34)) (fun _ h_ => h_.1))))); (case side4 => exact (Kd.N_reads' HO406.out).2.1); rintro e w42 ⟨rfl, hb⟩; replace HO1 := Aside0.mk (Kd.V_below (by (with_reducible repeat (first | apply Kd.V_alloc | apply Kd.V_drewN | apply Kd.V_drew)); exact (Kd.V_mono (Kd.V_far (p := ⟨gb408, 1, none⟩) (Kd.V_far (p := ⟨gb408, 0, none⟩) (Kd.V_mono HO1.out (fun k_ hk => (⟨hk, hk.2⟩ : _ ∧ k_ ≠ gb408))) (fun _ hk => hk.2) (.int .i64 t403)) (fun _ hk => hk.2) (.slice Ao34 t404.length co34)) (fun _ h_ => h_.1))) hb); replace HO394 := Aside0.mk (Kd.N_below (by (with_reducible repeat (first | apply Kd.N_alloc | apply Kd.N_drewN | apply Kd.N_drew)); exact (Kd.N_mono (Kd.N_far (p := ⟨gb408, 1, none⟩) (Kd.N_far (p := ⟨gb408, 0, none⟩) (Kd.N_mono HO394.out (fun k_ hk => (⟨hk, hk.2⟩ : _ ∧ k_ ≠ gb408))) (fun _ hk => hk.2) (.int .i64 t403)) (fun _ hk => hk.2) (.slice Ao34 t404.length co34)) (fun _ h_ => h_.1))) hb); replace HO400 := Aside0.mk (Kd.N_below (by (with_reducible repeat (first | apply Kd.N_alloc | apply Kd.N_drewN | apply Kd.N_drew)); exact (Kd.N_mono (Kd.N_far (p := ⟨gb408, 1, none⟩) (Kd.N_far (p := ⟨gb408, 0, none⟩) (Kd.N_mono HO400.out (fun k_ hk => (⟨hk, hk.2⟩ : _ ∧ k_ ≠ gb408))) (fun _ hk => hk.2) (.int .i64 t403)) (fun _ hk => hk.2) (.slice Ao34 t404.length co34)) (fun _ h_ => h_.1))) hb); replace HO406 := Aside0.mk (Kd.N_below (by (with_reducible repeat (first | apply Kd.N_alloc | apply Kd.N_drewN | apply Kd.N_drew)); exact (Kd.N_mono (Kd.N_far (p := ⟨gb408, 1, none⟩) (Kd.N_far (p := ⟨gb408, 0, none⟩) (Kd.N_mono HO406.out (fun k_ hk => (⟨hk, hk.2⟩ : _ ∧ k_ ≠ gb408))) (fun _ hk => hk.2) (.int .i64 t403)) (fun _ hk => hk.2) (.slice Ao34 t404.length co34)) (fun _ h_ => h_.1))) hb); replace BK391 := Aside0.mk (blk_below (g := gb391) (o := .cells #[.int .i64 a0_0, .slice A0_1 l0_1.length c0_1] 24 (0, 0)) (by (with_reducible repeat (first | refine blk_drewN ?_ _ | refine blk_drew ?_ | refine blk_alloc ?_ _)); refine blk_far ?_ NB391_408.out _; (with_reducible repeat (first | refine blk_drewN ?_ _ | refine blk_drew ?_ | refine blk_alloc ?_ _)); refine blk_far ?_ NB391_408.out _; (with_reducible repeat (first | refine blk_drewN ?_ _ | refine blk_drew ?_ | refine blk_alloc ?_ _)); exact BK391.out) hb); replace BK402 := Aside0.mk (blk_below (g := gb402) (o := .cells #[.int .i64 t397, .slice Ao27 t398.length co27] 24 (0, 0)) (by (with_reducible repeat (first | refine blk_drewN ?_ _ | refine blk_drew ?_ | refine blk_alloc ?_ _)); refine blk_far ?_ NB402_408.out _; (with_reducible repeat (first | refine blk_drewN ?_ _ | refine blk_drew ?_ | refine blk_alloc ?_ _)); refine blk_far ?_ NB402_408.out _; (with_reducible repeat (first | refine blk_drewN ?_ _ | refine blk_drew ?_ | refine blk_alloc ?_ _)); exact BK402.out) hb); replace BK408 := Aside0.mk (blk_below (g := gb408) (o := .cells #[.int .i64 t403, .slice Ao34 t404.length co34] 24 (0, 0)) (by (with_reducible repeat (first | refine blk_drewN ?_ _ | refine blk_drew ?_ | refine blk_alloc ?_ _)); refine blk_put (cs := #[.int .i64 t403, .slice none 0 0]) ?_ 1 _ rfl; (with_reducible repeat (first | refine blk_drewN ?_ _ | refine blk_drew ?_ | refine blk_alloc ?_ _)); refine blk_put (cs := #[.int .i64 0, .slice none 0 0]) ?_ 0 _ rfl; (with_reducible repeat (first | refine blk_drewN ?_ _ | refine blk_drew ?_ | refine blk_alloc ?_ _)); exact BK408.out) hb); replace HB := Aside0.mk (below_step bel hb); (try clear hb); (try clear hb2); (try clear hk); (try clear hi)))
    go_meet
    case rel => exact ⟨_, (!t409), rsz, H', ⟨by first | omega | exact Nat.le_refl _⟩, ⟨by (with_reducible repeat (first | apply Kd.V_alloc | apply Kd.V_drewN | apply Kd.V_drew)); exact Kd.V_mono HO1.out (fun _ hk => ⟨hk.1.1.1.1.1.1, ⟨hk.1.1.1.2, ⟨hk.1.2, ⟨hk.1.1.1.1.1.2, ⟨hk.1.1.2, hk.2⟩⟩⟩⟩⟩)⟩, ⟨by (with_reducible repeat (first | apply Kd.N_alloc | apply Kd.N_drewN | apply Kd.N_drew)); exact Kd.N_mono HO400.out (fun _ hk => ⟨hk.1.1.1.1, ⟨hk.1.2, ⟨hk.1.1.1.2.2, ⟨hk.1.1.2, hk.2⟩⟩⟩⟩)⟩, ⟨by (with_reducible repeat (first | apply Kd.N_alloc | apply Kd.N_drewN | apply Kd.N_drew)); exact Kd.N_mono HO406.out (fun _ hk => ⟨hk.1.1, ⟨hk.1.2.2.1, ⟨hk.1.2.2.2.1, ⟨hk.1.2.2.2.2, hk.2⟩⟩⟩⟩)⟩, ⟨blkz⟩, ⟨blkz⟩, ⟨blkz⟩, ⟨bel⟩⟩
   ·
    rw [if_neg c35] at H
    have c35b0 : (t401 == t407) = false := beq_eq_false_iff_ne.mpr c35
    have c35b1 : (t401 != t407) = true := bne_iff_ne.mpr c35
    (first | rw [c35b0] | (simp only [i64_w, i32_w]; rw [c35b0]) | skip)
    have H' := Aside0.mk H
    clear H
    go_wp2
    go_meet
    case rel => exact ⟨_, (true), rsz, H', ⟨by first | omega | exact Nat.le_refl _⟩, ⟨by (with_reducible repeat (first | apply Kd.V_alloc | apply Kd.V_drewN | apply Kd.V_drew)); exact Kd.V_mono (Kd.V_far (p := ⟨gb408, 1, none⟩) (Kd.V_far (p := ⟨gb408, 0, none⟩) (Kd.V_mono HO1.out (fun k_ hk => (⟨hk, hk.2⟩ : _ ∧ k_ ≠ gb408))) (fun _ hk => hk.2) (.int .i64 t403)) (fun _ hk => hk.2) (.slice Ao34 t404.length co34)) (fun _ hk => ⟨hk.1.1.1.1.1.1.1, ⟨hk.1.1.1.1.2, ⟨hk.1.1.2, ⟨hk.1.1.1.1.1.1.2, ⟨hk.1.1.1.2, hk.1.2⟩⟩⟩⟩⟩)⟩, ⟨by (with_reducible repeat (first | apply Kd.N_alloc | apply Kd.N_drewN | apply Kd.N_drew)); exact Kd.N_mono (Kd.N_far (p := ⟨gb408, 1, none⟩) (Kd.N_far (p := ⟨gb408, 0, none⟩) (Kd.N_mono HO400.out (fun k_ hk => (⟨hk, hk.2⟩ : _ ∧ k_ ≠ gb408))) (fun _ hk => hk.2) (.int .i64 t403)) (fun _ hk => hk.2) (.slice Ao34 t404.length co34)) (fun _ hk => ⟨hk.1.1.1.1.1, ⟨hk.1.1.2, ⟨hk.1.1.1.1.2.2, ⟨hk.1.1.1.2, hk.1.2⟩⟩⟩⟩)⟩, ⟨by (with_reducible repeat (first | apply Kd.N_alloc | apply Kd.N_drewN | apply Kd.N_drew)); exact Kd.N_mono (Kd.N_far (p := ⟨gb408, 1, none⟩) (Kd.N_far (p := ⟨gb408, 0, none⟩) (Kd.N_mono HO406.out (fun k_ hk => (⟨hk, hk.2⟩ : _ ∧ k_ ≠ gb408))) (fun _ hk => hk.2) (.int .i64 t403)) (fun _ hk => hk.2) (.slice Ao34 t404.length co34)) (fun _ hk => ⟨hk.1.1.1, ⟨hk.1.1.2.2.1, ⟨hk.1.1.2.2.2.1, ⟨hk.1.1.2.2.2.2, hk.1.2⟩⟩⟩⟩)⟩, ⟨by (with_reducible repeat (first | refine blk_drewN ?_ _ | refine blk_drew ?_ | refine blk_alloc ?_ _)); refine blk_far ?_ NB391_408.out _; (with_reducible repeat (first | refine blk_drewN ?_ _ | refine blk_drew ?_ | refine blk_alloc ?_ _)); refine blk_far ?_ NB391_408.out _; (with_reducible repeat (first | refine blk_drewN ?_ _ | refine blk_drew ?_ | refine blk_alloc ?_ _)); exact BK391.out⟩, ⟨by (with_reducible repeat (first | refine blk_drewN ?_ _ | refine blk_drew ?_ | refine blk_alloc ?_ _)); refine blk_far ?_ NB402_408.out _; (with_reducible repeat (first | refine blk_drewN ?_ _ | refine blk_drew ?_ | refine blk_alloc ?_ _)); refine blk_far ?_ NB402_408.out _; (with_reducible repeat (first | refine blk_drewN ?_ _ | refine blk_drew ?_ | refine blk_alloc ?_ _)); exact BK402.out⟩, ⟨by (with_reducible repeat (first | refine blk_drewN ?_ _ | refine blk_drew ?_ | refine blk_alloc ?_ _)); refine blk_put (cs := #[.int .i64 t403, .slice none 0 0]) ?_ 1 _ rfl; (with_reducible repeat (first | refine blk_drewN ?_ _ | refine blk_drew ?_ | refine blk_alloc ?_ _)); refine blk_put (cs := #[.int .i64 0, .slice none 0 0]) ?_ 0 _ rfl; (with_reducible repeat (first | refine blk_drewN ?_ _ | refine blk_drew ?_ | refine blk_alloc ?_ _)); exact BK408.out⟩, ⟨bel⟩⟩
  case rest =>
   clear HC15
   (try clear c1); (try clear c2); (try clear p2); (try clear c3); (try clear c4); (try clear c6); (try clear c15); (try clear c25); (try clear c29); (try clear c31); (try clear c32); (try clear c35); (try clear c35b0); (try clear c35b1); (try clear c37); (try clear c38); (try clear c40); (try clear hcz17_0); (try clear hcz17_1); (try clear hcz22_0); (try clear hcz22_1); (try clear hcz26_0); (try clear hcz26_1); (try clear hcz28_0); (try clear hcz28_1); (try clear hcz33_0); (try clear hcz33_1); (try clear hcz39_0); (try clear hcz39_1); (try clear hcz41_0); (try clear hcz41_1); (try clear hcz7_0); (try clear hcz7_1); (try clear hfz17_0); (try clear hfz17_1); (try clear hfz22_0); (try clear hfz22_1); (try clear hfz26_0); (try clear hfz26_1); (try clear hfz28_0); (try clear hfz28_1); (try clear hfz33_0); (try clear hfz33_1); (try clear hfz39_0); (try clear hfz39_1); (try clear hfz41_0); (try clear hfz41_1); (try clear hfz7_0); (try clear hfz7_1)
   obtain ⟨kq, x36_14, rfl, HA, HJ14, HO_1, HO_403001, HO_409001, BK391, BK402, BK408, HB⟩ := hcut
   cases kq with
   | zero => exact absurd HA.out (by simp [dropperlaw06_KeyTurns.j0])
   | succ kj14 =>
    have H := HA.out
    clear HA
    simp only [dropperlaw06_KeyTurns.j0] at H
    by_cases c43 : x36_14 = true
    ·
     subst c43
     rw [if_pos rfl] at H
     exact absurd H (by simp)
    ·
     replace c43 := Bool.eq_false_iff.mpr c43
     subst c43
     rw [if_neg (show ¬ (false = true) by decide)] at H
     by_cases c44 : t401 = 0
     ·
      rw [if_pos c44] at H
      have c44b0 : (t401 == 0) = true := beq_iff_eq.mpr c44
      have c44b1 : (t401 != 0) = false := bne_eq_false_iff_eq.mpr c44
      clear c44
      replace H := Option.bind_eq_some_iff.mp H
      obtain ⟨⟨t411, t412, t415⟩, A450, H⟩ := H
      try dsimp only at H
      have A45 := Aside0.mk A450
      clear A450
      replace H := Option.bind_eq_some_iff.mp H
      obtain ⟨⟨t417, t418⟩, A460, H⟩ := H
      try dsimp only at H
      have A46 := Aside0.mk A460
      clear A460
      replace H := Option.bind_eq_some_iff.mp H
      obtain ⟨⟨t419, t420⟩, A470, H⟩ := H
      try dsimp only at H
      have A47 := Aside0.mk A470
      clear A470
      by_cases c48 : t415 = 0
      ·
       rw [if_pos c48] at H
       have c48b0 : (t415 == 0) = true := beq_iff_eq.mpr c48
       have c48b1 : (t415 != 0) = false := bne_eq_false_iff_eq.mpr c48
       clear c48
       replace H := Option.bind_eq_some_iff.mp H
       obtain ⟨t421, A490, H⟩ := H
       try dsimp only at H
       have A49 := Aside0.mk A490
       clear A490
       by_cases c50 : t421 = true
       ·
        subst c50
        rw [if_pos rfl] at H
        by_cases c51 : t418 = t420
        ·
         rw [if_pos c51] at H
         have c51b0 : (t418 == t420) = true := beq_iff_eq.mpr c51
         have c51b1 : (t418 != t420) = false := bne_eq_false_iff_eq.mpr c51
         clear c51
         by_cases c52 : (t417 == t419) = true
         ·
          rw [if_pos c52] at H
          have c52b0 : (t417 == t419) = true := c52
          (try (have c52b1 : decide (t417 = t419) = true := by simpa using c52))
          (try (have c52b2 : (t417 == t419) = true := by simpa using c52))
          clear c52
          replace H := Option.bind_eq_some_iff.mp H
          obtain ⟨t422, A530, H⟩ := H
          try dsimp only at H
          have A53 := Aside0.mk A530
          clear A530
          obtain rfl := Option.some.inj H
          have hnb54 := NB402_391.out
          have hnc54 := NB391_402.out
          have hnb55 := NB402_408.out
          have hnc55 := NB408_402.out
          obtain ⟨hcz56_0, hcz56_1⟩ := bc2 BK402.out
          obtain ⟨hfz56_0, hfz56_1⟩ := bf2 BK402.out
          go_wp2_with (first | ((with_reducible refine gate_callee (f := 37) rfl ?_); refine goesL_ (some 42) rfl rfl Try.func37 (by kernel_rfl) rfl #[.agg #[.int .i64 t397, .slice Ao27 t398.length co27]] rfl mapz ?_; (with_reducible refine (key_Turned.calls kj14 t397 _ _ t398 t411 t412 t415 _ ?side1 ?side2 A45.out).mono ?_); (case side1 => repeat (first | exact (Kd.N_reads' HO_403001.out).2.2 | (with_reducible refine Kd.C_alloc ?_ _) | (with_reducible refine Kd.C_drewN ?_ _) | (with_reducible refine Kd.C_drew ?_))); (case side2 => exact (Kd.N_reads' HO_403001.out).2.1); rintro e w57 ⟨v413, rfl, ho0, hb⟩; refine ⟨_, rfl, ?_⟩; have HO414 := Aside0.mk (Kd.N_lower (Kd.N_mono (ok' := fun k_ => (P1_ k_ ∨ w.heap.size ≤ k_) ∧ some k_ ≠ (.slice Ao27 t398.length co27 : Value).ownBlock ∧ some k_ ≠ (.slice Ao34 t404.length co34 : Value).ownBlock ∧ k_ ≠ gb391 ∧ k_ ≠ gb402 ∧ k_ ≠ gb408) (Kd.S_N (Kd.S_bound ho0)) (fun k_ hk_ => ⟨(.inr (Nat.le_trans (below_size bel) hk_.2.1)), (Kd.fresh' (Kd.N_lt (by (with_reducible repeat (first | apply Kd.N_alloc | apply Kd.N_drewN | apply Kd.N_drew)); exact HO_403001.out)) k_ hk_.2.1), (Kd.fresh' (Kd.N_lt (by (with_reducible repeat (first | apply Kd.N_alloc | apply Kd.N_drewN | apply Kd.N_drew)); exact HO_409001.out)) k_ hk_.2.1), (Kd.freshB (g := gb391) (o := .cells #[.int .i64 a0_0, .slice A0_1 l0_1.length c0_1] 24 (0, 0)) blkz k_ hk_.2.1), (Kd.freshB (g := gb402) (o := .cells #[.int .i64 t397, .slice Ao27 t398.length co27] 24 (0, 0)) blkz k_ hk_.2.1), (Kd.freshB (g := gb408) (o := .cells #[.int .i64 t403, .slice Ao34 t404.length co34] 24 (0, 0)) blkz k_ hk_.2.1)⟩)) (below_size bel)); replace HO_1 := Aside0.mk (Kd.V_elder' (by (with_reducible repeat (first | apply Kd.V_alloc | apply Kd.V_drewN | apply Kd.V_drew)); exact HO_1.out) (by first | exact Kd.N_base ho0 | exact Kd.S_base ho0) hb); replace HO_403001 := Aside0.mk (Kd.N_elder' (by (with_reducible repeat (first | apply Kd.N_alloc | apply Kd.N_drewN | apply Kd.N_drew)); exact HO_403001.out) (by first | exact Kd.N_base ho0 | exact Kd.S_base ho0) hb); replace HO_409001 := Aside0.mk (Kd.N_elder' (by (with_reducible repeat (first | apply Kd.N_alloc | apply Kd.N_drewN | apply Kd.N_drew)); exact HO_409001.out) (by first | exact Kd.N_base ho0 | exact Kd.S_base ho0) hb); replace BK391 := Aside0.mk (blk_below (g := gb391) blkz hb); replace BK402 := Aside0.mk (blk_below (g := gb402) blkz hb); replace BK408 := Aside0.mk (blk_below (g := gb408) blkz hb); replace HB := Aside0.mk (below_step bel hb); (try clear hb); (try clear hb2); (try clear hk); (try clear hi); (try clear ho0)) | ((with_reducible refine gate_dst (N := 9) rfl ?_); refine box_event ?hg (N := 9) ?hd (cs := #[.int .i64 0, .slice none 0 0]) (t := 24) ?hr ?_; (case hd => rfl); (case hg => rfl); (case hr => first | (go_simp; done) | (go_simp; rfl)); intro gb416 hg w58 hbox hb; have BK416 := Aside0.mk (hbox); have GW416 := bsz (w := w) hg; have GE416 := GW416; have NB391_416 := neL (g := gb391) hg; have NB416_391 := neR (g := gb391) hg; have NB402_416 := neL (g := gb402) hg; have NB416_402 := neR (g := gb402) hg; have NB408_416 := neL (g := gb408) hg; have NB416_408 := neR (g := gb408) hg; replace HO_1 := Aside0.mk (Kd.V_below (Kd.V_elderB (by (with_reducible repeat (first | apply Kd.V_alloc | apply Kd.V_drewN | apply Kd.V_drew)); exact HO_1.out) gb416 (Nat.le_of_eq hg.symm)) hb); replace HO_403001 := Aside0.mk (Kd.N_below (Kd.N_elderB (by (with_reducible repeat (first | apply Kd.N_alloc | apply Kd.N_drewN | apply Kd.N_drew)); exact HO_403001.out) gb416 (Nat.le_of_eq hg.symm)) hb); replace HO_409001 := Aside0.mk (Kd.N_below (Kd.N_elderB (by (with_reducible repeat (first | apply Kd.N_alloc | apply Kd.N_drewN | apply Kd.N_drew)); exact HO_409001.out) gb416 (Nat.le_of_eq hg.symm)) hb); replace HO414 := Aside0.mk (Kd.N_below (Kd.N_elderB (by (with_reducible repeat (first | apply Kd.N_alloc | apply Kd.N_drewN | apply Kd.N_drew)); exact HO414.out) gb416 (Nat.le_of_eq hg.symm)) hb); replace BK391 := Aside0.mk (blk_below (g := gb391) blkz hb); replace BK402 := Aside0.mk (blk_below (g := gb402) blkz hb); replace BK408 := Aside0.mk (blk_below (g := gb408) blkz hb); replace HB := Aside0.mk (below_step bel hb); clear hb hbox hg; have hnb59 := NB416_391.out; have hnc59 := NB391_416.out; have hnb60 := NB416_402.out; have hnc60 := NB402_416.out; have hnb61 := NB416_408.out; have hnc61 := NB408_416.out; obtain ⟨hcz62_0, hcz62_1⟩ := bc2 BK416.out; obtain ⟨hfz62_0, hfz62_1⟩ := bf2 BK416.out; obtain ⟨Ao63, co63, eo63⟩ := Kd.N_slice HO414.out; subst eo63; have hnb64 := NB391_408.out; have hnc64 := NB408_391.out; obtain ⟨hcz65_0, hcz65_1⟩ := bc2 BK391.out) | ((with_reducible refine gate_callee (f := 21) rfl ?_); refine goesL_ (some 48) rfl rfl Try.func21 (by kernel_rfl) rfl #[.agg #[.int .i64 a0_0, .slice A0_1 l0_1.length c0_1], .slice A1 l1.length c1] rfl mapz ?_; (with_reducible refine (key_Holds.calls kj14 a0_0 _ _ l0_1 _ _ l1 t417 t418 _ (cbz HR0_1) HC0_1.out ?side3 ?side4 A46.out).mono ?_); (case side3 => first | (refine (Kd.V_reads' (e := 3) (base := w.heap.size) (ok := fun k_ => ((((w.heap.size ≤ k_) ∧ (some k_ ≠ (.slice Ao27 t398.length co27 : Value).ownBlock ∧ (some k_ ≠ (.slice Ao34 t404.length co34 : Value).ownBlock ∧ (k_ ≠ gb391 ∧ (k_ ≠ gb402 ∧ k_ ≠ gb408))))) ∧ some k_ ≠ (.slice Ao63 t412.length co63 : Value).ownBlock) ∧ k_ ≠ gb416)) (n := l1.length) (c := c1) ?_).2.2; exact (by (with_reducible repeat (first | apply Kd.V_alloc | apply Kd.V_drewN | apply Kd.V_drew)); exact (Kd.V_mono (Kd.V_far (p := ⟨gb416, 1, none⟩) (Kd.V_far (p := ⟨gb416, 0, none⟩) (Kd.V_mono HO_1.out (fun k_ hk => (⟨hk, hk.2⟩ : _ ∧ k_ ≠ gb416))) (fun _ hk => hk.2) (.int .i64 t411)) (fun _ hk => hk.2) (.slice Ao63 t412.length co63)) (fun _ h_ => h_.1)))) | (refine (Kd.V_reads' (e := 3) (base := w.heap.size) (ok := fun k_ => ((((P1_ k_ ∨ w.heap.size ≤ k_) ∧ (some k_ ≠ (.slice Ao27 t398.length co27 : Value).ownBlock ∧ (some k_ ≠ (.slice Ao34 t404.length co34 : Value).ownBlock ∧ (k_ ≠ gb391 ∧ (k_ ≠ gb402 ∧ k_ ≠ gb408))))) ∧ some k_ ≠ (.slice Ao63 t412.length co63 : Value).ownBlock) ∧ k_ ≠ gb416)) (n := l1.length) (c := c1) ?_).2.2; exact (by (with_reducible repeat (first | apply Kd.V_alloc | apply Kd.V_drewN | apply Kd.V_drew)); exact (Kd.V_mono (Kd.V_far (p := ⟨gb416, 1, none⟩) (Kd.V_far (p := ⟨gb416, 0, none⟩) (Kd.V_mono HO_1.out (fun k_ hk => (⟨hk, hk.2⟩ : _ ∧ k_ ≠ gb416))) (fun _ hk => hk.2) (.int .i64 t411)) (fun _ hk => hk.2) (.slice Ao63 t412.length co63)) (fun _ h_ => h_.1))))); (case side4 => exact (Kd.V_reads' HO_1.out).2.1); rintro e w66 ⟨rfl, hb⟩; refine ⟨_, rfl, ?_⟩; replace HO_1 := Aside0.mk (Kd.V_below (by (with_reducible repeat (first | apply Kd.V_alloc | apply Kd.V_drewN | apply Kd.V_drew)); exact (Kd.V_mono (Kd.V_far (p := ⟨gb416, 1, none⟩) (Kd.V_far (p := ⟨gb416, 0, none⟩) (Kd.V_mono HO_1.out (fun k_ hk => (⟨hk, hk.2⟩ : _ ∧ k_ ≠ gb416))) (fun _ hk => hk.2) (.int .i64 t411)) (fun _ hk => hk.2) (.slice Ao63 t412.length co63)) (fun _ h_ => h_.1))) hb); replace HO_403001 := Aside0.mk (Kd.N_below (by (with_reducible repeat (first | apply Kd.N_alloc | apply Kd.N_drewN | apply Kd.N_drew)); exact (Kd.N_mono (Kd.N_far (p := ⟨gb416, 1, none⟩) (Kd.N_far (p := ⟨gb416, 0, none⟩) (Kd.N_mono HO_403001.out (fun k_ hk => (⟨hk, hk.2⟩ : _ ∧ k_ ≠ gb416))) (fun _ hk => hk.2) (.int .i64 t411)) (fun _ hk => hk.2) (.slice Ao63 t412.length co63)) (fun _ h_ => h_.1))) hb); replace HO_409001 := Aside0.mk (Kd.N_below (by (with_reducible repeat (first | apply Kd.N_alloc | apply Kd.N_drewN | apply Kd.N_drew)); exact (Kd.N_mono (Kd.N_far (p := ⟨gb416, 1, none⟩) (Kd.N_far (p := ⟨gb416, 0, none⟩) (Kd.N_mono HO_409001.out (fun k_ hk => (⟨hk, hk.2⟩ : _ ∧ k_ ≠ gb416))) (fun _ hk => hk.2) (.int .i64 t411)) (fun _ hk => hk.2) (.slice Ao63 t412.length co63)) (fun _ h_ => h_.1))) hb); replace HO414 := Aside0.mk (Kd.N_below (by (with_reducible repeat (first | apply Kd.N_alloc | apply Kd.N_drewN | apply Kd.N_drew)); exact (Kd.N_mono (Kd.N_far (p := ⟨gb416, 1, none⟩) (Kd.N_far (p := ⟨gb416, 0, none⟩) (Kd.N_mono HO414.out (fun k_ hk => (⟨hk, hk.2⟩ : _ ∧ k_ ≠ gb416))) (fun _ hk => hk.2) (.int .i64 t411)) (fun _ hk => hk.2) (.slice Ao63 t412.length co63)) (fun _ h_ => h_.1))) hb); replace BK391 := Aside0.mk (blk_below (g := gb391) (o := .cells #[.int .i64 a0_0, .slice A0_1 l0_1.length c0_1] 24 (0, 0)) (by (with_reducible repeat (first | refine blk_drewN ?_ _ | refine blk_drew ?_ | refine blk_alloc ?_ _)); refine blk_far ?_ NB391_416.out _; (with_reducible repeat (first | refine blk_drewN ?_ _ | refine blk_drew ?_ | refine blk_alloc ?_ _)); refine blk_far ?_ NB391_416.out _; (with_reducible repeat (first | refine blk_drewN ?_ _ | refine blk_drew ?_ | refine blk_alloc ?_ _)); exact BK391.out) hb); replace BK402 := Aside0.mk (blk_below (g := gb402) (o := .cells #[.int .i64 t397, .slice Ao27 t398.length co27] 24 (0, 0)) (by (with_reducible repeat (first | refine blk_drewN ?_ _ | refine blk_drew ?_ | refine blk_alloc ?_ _)); refine blk_far ?_ NB402_416.out _; (with_reducible repeat (first | refine blk_drewN ?_ _ | refine blk_drew ?_ | refine blk_alloc ?_ _)); refine blk_far ?_ NB402_416.out _; (with_reducible repeat (first | refine blk_drewN ?_ _ | refine blk_drew ?_ | refine blk_alloc ?_ _)); exact BK402.out) hb); replace BK408 := Aside0.mk (blk_below (g := gb408) (o := .cells #[.int .i64 t403, .slice Ao34 t404.length co34] 24 (0, 0)) (by (with_reducible repeat (first | refine blk_drewN ?_ _ | refine blk_drew ?_ | refine blk_alloc ?_ _)); refine blk_far ?_ NB408_416.out _; (with_reducible repeat (first | refine blk_drewN ?_ _ | refine blk_drew ?_ | refine blk_alloc ?_ _)); refine blk_far ?_ NB408_416.out _; (with_reducible repeat (first | refine blk_drewN ?_ _ | refine blk_drew ?_ | refine blk_alloc ?_ _)); exact BK408.out) hb); replace BK416 := Aside0.mk (blk_below (g := gb416) (o := .cells #[.int .i64 t411, .slice Ao63 t412.length co63] 24 (0, 0)) (by (with_reducible repeat (first | refine blk_drewN ?_ _ | refine blk_drew ?_ | refine blk_alloc ?_ _)); refine blk_put (cs := #[.int .i64 t411, .slice none 0 0]) ?_ 1 _ rfl; (with_reducible repeat (first | refine blk_drewN ?_ _ | refine blk_drew ?_ | refine blk_alloc ?_ _)); refine blk_put (cs := #[.int .i64 0, .slice none 0 0]) ?_ 0 _ rfl; (with_reducible repeat (first | refine blk_drewN ?_ _ | refine blk_drew ?_ | refine blk_alloc ?_ _)); exact BK416.out) hb); replace HB := Aside0.mk (below_step bel hb); (try clear hb); (try clear hb2); (try clear hk); (try clear hi); obtain ⟨hcz67_0, hcz67_1⟩ := bc2 BK402.out; obtain ⟨hfz67_0, hfz67_1⟩ := bf2 BK402.out) | ((with_reducible refine gate_callee (f := 21) rfl ?_); refine goesL_ (some 54) rfl rfl Try.func21 (by kernel_rfl) rfl #[.agg #[.int .i64 t397, .slice Ao27 t398.length co27], .slice A1 l1.length c1] rfl mapz ?_; (with_reducible refine (key_Holds.calls kj14 t397 _ _ t398 _ _ l1 t419 t420 _ ?side1 ?side2 ?side3 ?side4 A47.out).mono ?_); (case side1 => repeat (first | exact (Kd.N_reads' HO_403001.out).2.2 | (with_reducible refine Kd.C_alloc ?_ _) | (with_reducible refine Kd.C_drewN ?_ _) | (with_reducible refine Kd.C_drew ?_))); (case side2 => exact (Kd.N_reads' HO_403001.out).2.1); (case side3 => repeat (first | exact (Kd.V_reads' HO_1.out).2.2 | (with_reducible refine Kd.C_alloc ?_ _) | (with_reducible refine Kd.C_drewN ?_ _) | (with_reducible refine Kd.C_drew ?_))); (case side4 => exact (Kd.V_reads' HO_1.out).2.1); rintro e w68 ⟨rfl, hb⟩; refine ⟨_, rfl, ?_⟩; replace HO_1 := Aside0.mk (Kd.V_below (by (with_reducible repeat (first | apply Kd.V_alloc | apply Kd.V_drewN | apply Kd.V_drew)); exact HO_1.out) hb); replace HO_403001 := Aside0.mk (Kd.N_below (by (with_reducible repeat (first | apply Kd.N_alloc | apply Kd.N_drewN | apply Kd.N_drew)); exact HO_403001.out) hb); replace HO_409001 := Aside0.mk (Kd.N_below (by (with_reducible repeat (first | apply Kd.N_alloc | apply Kd.N_drewN | apply Kd.N_drew)); exact HO_409001.out) hb); replace HO414 := Aside0.mk (Kd.N_below (by (with_reducible repeat (first | apply Kd.N_alloc | apply Kd.N_drewN | apply Kd.N_drew)); exact HO414.out) hb); replace BK391 := Aside0.mk (blk_below (g := gb391) blkz hb); replace BK402 := Aside0.mk (blk_below (g := gb402) blkz hb); replace BK408 := Aside0.mk (blk_below (g := gb408) blkz hb); replace BK416 := Aside0.mk (blk_below (g := gb416) blkz hb); replace HB := Aside0.mk (below_step bel hb); clear hb; obtain ⟨hcz69_0, hcz69_1⟩ := bc2 BK416.out; obtain ⟨hfz69_0, hfz69_1⟩ := bf2 BK416.out; obtain ⟨hcz70_0, hcz70_1⟩ := bc2 BK391.out) | (go_at_call 39; (with_reducible refine (dropperlaw06_sameBoards.calls kj14 t411 _ _ t412 a0_0 _ _ l0_1 true _ ?side1 ?side2 (cbz HR0_1) HC0_1.out A49.out).mono ?_); (case side1 => repeat (first | exact (Kd.N_reads' HO414.out).2.2 | (with_reducible refine Kd.C_alloc ?_ _) | (with_reducible refine Kd.C_drewN ?_ _) | (with_reducible refine Kd.C_drew ?_))); (case side2 => exact (Kd.N_reads' HO414.out).2.1); rintro e w71 ⟨rfl, hb⟩; replace HO_1 := Aside0.mk (Kd.V_below (by (with_reducible repeat (first | apply Kd.V_alloc | apply Kd.V_drewN | apply Kd.V_drew)); exact HO_1.out) hb); replace HO_403001 := Aside0.mk (Kd.N_below (by (with_reducible repeat (first | apply Kd.N_alloc | apply Kd.N_drewN | apply Kd.N_drew)); exact HO_403001.out) hb); replace HO_409001 := Aside0.mk (Kd.N_below (by (with_reducible repeat (first | apply Kd.N_alloc | apply Kd.N_drewN | apply Kd.N_drew)); exact HO_409001.out) hb); replace HO414 := Aside0.mk (Kd.N_below (by (with_reducible repeat (first | apply Kd.N_alloc | apply Kd.N_drewN | apply Kd.N_drew)); exact HO414.out) hb); replace BK391 := Aside0.mk (blk_below (g := gb391) blkz hb); replace BK402 := Aside0.mk (blk_below (g := gb402) blkz hb); replace BK408 := Aside0.mk (blk_below (g := gb408) blkz hb); replace BK416 := Aside0.mk (blk_below (g := gb416) blkz hb); replace HB := Aside0.mk (below_step bel hb); clear hb) | (go_at_call 15; (with_reducible refine (dropperlaw06_Awake.calls kj14  t422 _ A53.out).mono ?_); rintro e w72 ⟨rfl, hb⟩; replace HO_1 := Aside0.mk (Kd.V_below (by (with_reducible repeat (first | apply Kd.V_alloc | apply Kd.V_drewN | apply Kd.V_drew)); exact HO_1.out) hb); replace HO_403001 := Aside0.mk (Kd.N_below (by (with_reducible repeat (first | apply Kd.N_alloc | apply Kd.N_drewN | apply Kd.N_drew)); exact HO_403001.out) hb); replace HO_409001 := Aside0.mk (Kd.N_below (by (with_reducible repeat (first | apply Kd.N_alloc | apply Kd.N_drewN | apply Kd.N_drew)); exact HO_409001.out) hb); replace HO414 := Aside0.mk (Kd.N_below (by (with_reducible repeat (first | apply Kd.N_alloc | apply Kd.N_drewN | apply Kd.N_drew)); exact HO414.out) hb); replace BK391 := Aside0.mk (blk_below (g := gb391) blkz hb); replace BK402 := Aside0.mk (blk_below (g := gb402) blkz hb); replace BK408 := Aside0.mk (blk_below (g := gb408) blkz hb); replace BK416 := Aside0.mk (blk_below (g := gb416) blkz hb); replace HB := Aside0.mk (below_step bel hb); clear hb))
          go_ret
          exact ⟨ezz, bel⟩
         ·
          rw [if_neg c52] at H
          exact absurd H (by simp)
        ·
         rw [if_neg c51] at H
         exact absurd H (by simp)
       ·
        replace c50 := Bool.eq_false_iff.mpr c50
        subst c50
        rw [if_neg (show ¬ (false = true) by decide)] at H
        exact absurd H (by simp)
      ·
       rw [if_neg c48] at H
       exact absurd H (by simp)
     ·
      rw [if_neg c44] at H
      have c44b0 : (t401 == 0) = false := beq_eq_false_iff_ne.mpr c44
      have c44b1 : (t401 != 0) = true := bne_iff_ne.mpr c44
      replace H := Option.bind_eq_some_iff.mp H
      obtain ⟨t410, A730, H⟩ := H
      try dsimp only at H
      have A73 := Aside0.mk A730
      clear A730
      obtain rfl := Option.some.inj H
      go_wp2_with (first | ((with_reducible refine gate_callee (f := 15) rfl ?_); refine goesL_ (some 39) rfl rfl Try.func15 (by kernel_rfl) rfl #[] rfl mapz ?_; (with_reducible refine (dropperlaw06_Awake.calls kj14  t410 _ A73.out).mono ?_); rintro e w74 ⟨rfl, hb⟩; refine ⟨_, rfl, ?_⟩; replace HO_1 := Aside0.mk (Kd.V_below (by (with_reducible repeat (first | apply Kd.V_alloc | apply Kd.V_drewN | apply Kd.V_drew)); exact HO_1.out) hb); replace HO_403001 := Aside0.mk (Kd.N_below (by (with_reducible repeat (first | apply Kd.N_alloc | apply Kd.N_drewN | apply Kd.N_drew)); exact HO_403001.out) hb); replace HO_409001 := Aside0.mk (Kd.N_below (by (with_reducible repeat (first | apply Kd.N_alloc | apply Kd.N_drewN | apply Kd.N_drew)); exact HO_409001.out) hb); replace BK391 := Aside0.mk (blk_below (g := gb391) blkz hb); replace BK402 := Aside0.mk (blk_below (g := gb402) blkz hb); replace BK408 := Aside0.mk (blk_below (g := gb408) blkz hb); replace HB := Aside0.mk (below_step bel hb); clear hb))
      go_ret
      exact ⟨ezz, bel⟩

end Go.Proofs.Ytgdfakmlpdeabaa.XKey
-- Written by wip/xprint.py of this repo, over the kit's print.py: out of the translation; the oracles in it are by hand. Not trusted: Lean checks it.
namespace Go.Proofs.Ytgdfakmlpdeabaa.XKey
open Go.RowKit Go.Proofs.Ytgdfakmlpdeabaa.XKey Go.Proofs.YtgdfakmlpdeabaaW.PrintWords Go.Proofs.YtgdfakmlpdeabaaW.PrintLast Go.Proofs.YtgdfakmlpdeabaaW.PrintMore
def dropperlaw06_KeyTurns.Pure : Prop := ∀ (a0_0 : Int) (l0_1 : List (S64)) (l1 : List Int), ((Lit.int .i64 a0_0).wf = true) → (l0_1.length ≤ 9223372036854775807 ∧ ∀ y0 ∈ l0_1, (y0.f0.length ≤ 9223372036854775807 ∧ ∀ y1 ∈ y0.f0, (Lit.int .i64 y1).wf = true) ∧ (y0.f1.length ≤ 9223372036854775807 ∧ ∀ y1 ∈ y0.f1, (Lit.int .i64 y1).wf = true)) → (l1.length ≤ 9223372036854775807 ∧ ∀ y0 ∈ l1, (Lit.int .i64 y0).wf = true) → ∃ k, dropperlaw06_KeyTurns.f k a0_0 l0_1 l1 = some true
end Go.Proofs.Ytgdfakmlpdeabaa.XKey

/- A board turned: program and reference answer the same; turned twice it is the board; the same weights hold. -/
namespace Go.Proofs.Ytgdfakmlpdeabaa.Pure
set_option linter.unusedVariables false
set_option linter.unusedSimpArgs false
open Go.RowKit Go.Proofs.Ytgdfakmlpdeabaa.XKey Go.Proofs.YtgdfakmlpdeabaaW.PrintWords Go.Proofs.YtgdfakmlpdeabaaW.PrintLast Go.Proofs.YtgdfakmlpdeabaaW.PrintMore
open Go.Proofs.Ytgdfakmlpdeabaa.Keys
theorem turned_fits {ts : List S64} (hf : Fits ts) : Fits (turned ts) := by
 refine ⟨by simpa [turned] using hf.1, fun t h => ?_⟩
 obtain ⟨u, hu, rfl⟩ := List.mem_map.1 h
 exact ⟨(hf.2 u hu).2, (hf.2 u hu).1⟩
theorem KeyTurns : dropperlaw06_KeyTurns.Pure := by
 intro n ts w _ ht hw
 have hf : Fits ts := ⟨ht.1, fun t h => ⟨(ht.2 t h).1.1, (ht.2 t h).2.1⟩⟩
 refine Ev.rounds (r := true) (g := fun k => dropperlaw06_KeyTurns.f k n ts w) ?_
 unfold dropperlaw06_KeyTurns.f
 obtain ⟨b, hb⟩ := large_ev n ts [w] hf.1 (by simp)
 refine ev_bind1 hb ?_
 cases b with
 | true => exact ev_pos rfl (ev_bind1 awake_ev (Ev.now _))
 | false =>
  refine ev_neg (by decide) (ev_bind1 (Turned_ev n ts) (ev_bind1 (rTurned_ev n ts hf) (ev_pos rfl ?_)))
  cases hk : okB n ts with
  | false =>
   have e : TurnedS n ts = (0, [], 60) := by unfold TurnedS; rw [if_neg (by simp [hk])]
   rw [e]
   refine ev_bind1 (sameB_refl 0 [] ⟨by simp, by simp⟩) ?_
   refine Ev.step (fun k => by rw [dropperlaw06_KeyTurns.j0]) ?_
   exact ev_neg (by decide) (ev_neg (by decide) (ev_bind1 awake_ev (Ev.now _)))
  | true =>
   have e : TurnedS n ts = (n, turned ts, 0) := by unfold TurnedS; rw [if_pos hk]
   have e2 : TurnedS n (turned ts) = (n, ts, 0) := by unfold TurnedS; rw [okB_turned, if_pos hk, turned_turned]
   rw [e]
   refine ev_bind1 (sameB_refl n (turned ts) (turned_fits hf)) ?_
   refine Ev.step (fun k => by rw [dropperlaw06_KeyTurns.j0]) ?_
   refine ev_neg (by decide) (ev_pos rfl (ev_bind1 (Turned_ev n (turned ts)) (ev_bind1 (Holds_ev n ts w) (ev_bind1 (Holds_ev n (turned ts) w) ?_))))
   have e3 : HoldsS n (turned ts) w = HoldsS n ts w := by
    unfold HoldsS weighS asks; rw [okB_turned, holds_turned]
   rw [e2, e3]
   exact ev_pos rfl (ev_bind1 (sameB_refl n ts hf) (ev_pos rfl (ev_pos rfl (ev_pos (by simp) (ev_bind1 awake_ev (Ev.now _))))))
end Go.Proofs.Ytgdfakmlpdeabaa.Pure

-- Written by wip/xprint.py of this repo, over the kit's print.py: out of the translation; the oracles in it are by hand. Not trusted: Lean checks it.
namespace Go.Proofs.Ytgdfakmlpdeabaa.keyTurns
open Go.ChangeShapes Go.WideShapes Go.ChangeAt Go.RowKit Go.Proofs.Ytgdfakmlpdeabaa.Open Go.Proofs.Ytgdfakmlpdeabaa.XKey Go.Proofs.YtgdfakmlpdeabaaW.PrintWords Go.Proofs.YtgdfakmlpdeabaaW.PrintLast Go.Proofs.YtgdfakmlpdeabaaW.PrintMore
open Go.ChangeMaps (open_string shut_string)
set_option linter.unusedVariables false
set_option linter.unusedSimpArgs false
theorem own : ownKnob Try.prog.godebug = none := by kernel_rfl
theorem laidOut : laidOutB Try.prog = true := by kernel_rfl
set_option maxHeartbeats 8000000 in
set_option maxRecDepth 100000 in
theorem lifted (os : Os) (started : os.Started) (H : Type) (enc : TypeId × Value → H) :
  ReturnsInHanded {} Try.checked os 6 .any (Rows.keyTurnsSpec.pre6 enc Try.prog Try.f6 Rows.keyTurnsRow.domain false) (Rows.keyTurnsSpec.post enc Try.prog Try.f6 false true false false) := by
 refine returnsInHanded_of_change_sized (C := Try.checked) own started (by kernel_rfl) Try.func6
  (ChangeSpec.witness6 (enc := enc) (C := Try.checked) false ⟨#[], #[.agg #[.int .i64 0, .slice none 0 0], .slice none 0 0], []⟩ 8 (by kernel_rfl) (by kernel_rfl) (by kernel_rfl) (by kernel_rfl)) ?_
 intro W base args ds gs before hval0 hW hcnd hsz0 _
 have hval : ∀ (j : Nat) t v, Try.f6.params[j]? = some t → args[j]? = some v → Value.okWide Try.prog W .any base t v := hval0
 have hW' := hW
 obtain ⟨p, q, hA0, hV, rfl, hfz, hnd⟩ := hW
 have hA : DataW.TrodAll enc Try.prog W 0 (fun _ => true) true Try.f6.params.toList args.toList ds p := hA0
 rw [Try.params6] at hA hval
 obtain ⟨v0, vs0, d0, ds0, p0, q0, hargs, rfl, rfl, h0, r0⟩ := trodAll_cons hA
 obtain ⟨v1, vs1, d1, ds1, p1, q1, rfl, rfl, rfl, h1, r1⟩ := trodAll_cons r0
 obtain ⟨rfl, rfl, rfl⟩ := trodAll_nil r1
 obtain rfl : args = #[v0, v1] := by cases args; simp_all
 obtain ⟨rfl, rfl⟩ := trodVars_none hV
 obtain ⟨cs0, rfl, hz0⟩ := okWide_struct Try.underlying24 (hval 0 24 v0 rfl rfl)
 have k0 := h0
 have lt0 : ∀ x ∈ p0, x.block < W.heap.size := by obtain ⟨m, hm⟩ := k0; exact DataW.trod_lt m _ _ _ hm
 obtain ⟨fuel0, hf0⟩ := h0
 obtain ⟨⟨u0_0, u0_1⟩, hK0, hG0⟩ := (opens_struct Try.underlying24 (by kernel_rfl) (opensF_cons rfl (by kernel_rfl) (opens_int Try.underlying3) (opensF_one rfl (by kernel_rfl) (opens_slice Try.underlying22 (opens_iso (f := fun x : S64 => (x.f0, x.f1)) (fun p => ⟨p.1, p.2⟩) (fun _ => rfl) (opens_struct Try.underlying64 (by kernel_rfl) (opensF_cons rfl (by kernel_rfl) (opens_slice Try.underlying25 (opens_int Try.underlying3) (by kernel_rfl)) (opensF_one rfl (by kernel_rfl) (opens_slice Try.underlying25 (opens_int Try.underlying3) (by kernel_rfl)))))) (by kernel_rfl))))) H enc W fuel0 _ _ hf0
 obtain ⟨c0_0, r0_0, e0_0, hk0_0, hk0_1⟩ := hK0
 obtain ⟨g0_0, g0_1⟩ := hG0
 have hq0_0 := hk0_0
 obtain ⟨A0_1, q0_1, hq0_1, hc0_1, hr0_1⟩ := hk0_1
 have hq0_0' : c0_0 = _ := hq0_0
 obtain rfl : cs0 = #[.int .i64 u0_0, .slice A0_1 u0_1.length q0_1] := by
  have h_ := agg_of (l := [.int .i64 u0_0, .slice A0_1 u0_1.length q0_1]) (cs := cs0) (by rw [e0_0, hq0_0', hq0_1]; rfl)
  exact h_
 obtain ⟨b1, len1, cap1, rfl⟩ := okWide_slice Try.underlying25 (hval 1 25 v1 rfl rfl)
 have k1 := h1
 have lt1 : ∀ x ∈ p1, x.block < W.heap.size := by obtain ⟨m, hm⟩ := k1; exact DataW.trod_lt m _ _ _ hm
 obtain ⟨fuel1, hf1⟩ := h1
 obtain ⟨l1, ⟨A1, c1, hcs1, hc1, hr1⟩, hg1⟩ := (opens_slice Try.underlying25 (opens_int Try.underlying3) (by kernel_rfl)) H enc W fuel1 _ _ hf1
 simp [Value.cells] at hcs1
 obtain ⟨rfl, rfl, rfl⟩ := hcs1
 clear hA0 hval0 hsz0
 obtain ⟨k, h⟩ := Pure.KeyTurns u0_0 u0_1 l1 g0_0 g0_1 hg1
 refine (dropperlaw06_KeyTurns.calls k u0_0 _ _ u0_1 (fun k_ => k_ < W.heap.size) _ _ l1 true W hr0_1 hc0_1 (Kd.V_mk hc1 (Kd.C_F (Kd.heap_int .i64) hr1)) h).mono fun e W' ⟨he, bel0⟩ => ?_
 have bel : Below W.heap.size W W' := bel0
 subst he
 exact ⟨_, rfl, _, _, _, [], _, [], hW', trodAll_mk1 (shut_bool Try.underlying4 _), (trodAll_cons_mk (Below.trod laidOut (by kernel_rfl) (of_decide_eq_true (by kernel_rfl)) k0 bel lt0) (trodAll_cons_mk (Below.trod laidOut (by kernel_rfl) (of_decide_eq_true (by kernel_rfl)) k1 bel lt1) trodAll_mk0)), rfl, bel.frame _, fun h => by cases h⟩
theorem over : Rows.keyTurnsRow.holds Try.pinned (OpenSpec.ofChange Rows.keyTurnsSpec) :=
 OpenClaim.holds_of_wide 6 Try.f6 rfl rfl rfl rfl rfl rfl rfl ⟨rfl, rfl, rfl, rfl, rfl⟩ rfl rfl rfl rfl rfl (by kernel_rfl) Try.func6 (by kernel_rfl)
  (of_decide_eq_true (by kernel_rfl)) (by unfold Func.isWrapper; first | (rw [if_pos (by decide +kernel)]; kernel_rfl) | (rw [if_neg (by decide +kernel)]; exact ⟨rfl, rfl⟩))
  (fun os started H enc _ => lifted os started H enc)
theorem proved : Rows.KeyTurnsSaid := over
#print axioms proved
end Go.Proofs.Ytgdfakmlpdeabaa.keyTurns
namespace Go.Proofs.Ytgdfakmlpdeabaa
theorem keyTurns_holds : Rows.KeyTurnsSaid := keyTurns.proved
end Go.Proofs.Ytgdfakmlpdeabaa
