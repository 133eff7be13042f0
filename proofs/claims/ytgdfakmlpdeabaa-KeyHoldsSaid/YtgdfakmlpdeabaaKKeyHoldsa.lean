-- Written by wip/pack.py of this repo: texts of this claim, put together.
import Derived.Test.YtgdfakmlpdeabaaRows
import Derived.WalkKit
import Derived.ProofKit
import Derived.OpenShut
import Derived.ShutString
import Derived.ChangeOld
import Derived.Below
import Derived.SizedLaws
import Derived.Test.YtgdfakmlpdeabaaKKeyg
namespace Go.Proofs.Ytgdfakmlpdeabaa.XKey
open Go.RowKit Go.Proofs.YtgdfakmlpdeabaaW.PrintWords Go.Proofs.YtgdfakmlpdeabaaW.PrintLast Go.Proofs.YtgdfakmlpdeabaaW.PrintMore
attribute [local go_sem] max2_int min2_int max_two min_two max_three min_three max_four min_four   -- for this text's walks alone
set_option linter.unusedVariables false
set_option linter.unusedSimpArgs false
/-! ### dropperlaw06_KeyHolds: function 4 -/
def dropperlaw06_KeyHolds.j0 : Nat → List Int → Bool → Int → List (S64) → List Int → List Int → Option (Bool)
 | 0, _, _, _, _, _, _ => none
 | k + 1, x1, x43, x266000, x266001, x267000, x267001 => if x43 = true then (none) else ((key_Sum.f k x266000 x266001 x1 x267000).bind fun bt276 => ((dropperref06_Sum.f k x266000 x266001 x1 x267000).bind fun bt278 => ((key_Proves.f k x266000 x266001 x1 x267000 x267001).bind fun bt280 => ((dropperref06_Proves.f k x266000 x266001 x1 x267000 x267001).bind fun bt282 => (if bt276.1 = bt278.1 then (if bt276.2 = bt278.2 then (if (bt280.1 == bt282.1) = true then (if bt280.2 = bt282.2 then ((dropperlaw06_Awake.f k).bind fun t284 => (some t284)) else (none)) else (none)) else (none)) else (none))))))
def dropperlaw06_KeyHolds.f (k : Nat) (a0_0 : Int) (l0_1 : List (S64)) (l1 : List Int) (l2_0 : List Int) (l2_1 : List Int) : Option (Bool) := (dropperlaw06_Large.f k a0_0 l0_1 (([l1, l2_0, l2_1] : List (List Int)))).bind fun t270 => (if t270 = true then ((dropperlaw06_Awake.f k).bind fun t271 => (some t271)) else ((key_Holds.f k a0_0 l0_1 l1).bind fun bt272 => ((dropperref06_Holds.f k a0_0 l0_1 l1).bind fun bt274 => (if (bt272.1 != bt274.1) = true then (dropperlaw06_KeyHolds.j0 k l1 true a0_0 l0_1 l2_0 l2_1) else (dropperlaw06_KeyHolds.j0 k l1 (bt272.2 != bt274.2) a0_0 l0_1 l2_0 l2_1)))))
set_option maxHeartbeats 8000000 in
set_option maxRecDepth 100000 in
theorem dropperlaw06_KeyHolds.calls (k : Nat) (a0_0 : Int) (A0_1 : Option Addr) (c0_1 : Nat) (l0_1 : List (S64)) (P1_ : Nat → Prop) (A1 : Option Addr) (c1 : Nat) (l1 : List Int) (P2_0_ : Nat → Prop) (A2_0 : Option Addr) (c2_0 : Nat) (l2_0 : List Int) (P2_1_ : Nat → Prop) (A2_1 : Option Addr) (c2_1 : Nat) (l2_1 : List Int) (r : Bool) (w : World) (hr0_1 : Kd.C k64 w A0_1 l0_1.length l0_1) (hc0_1 : l0_1.length ≤ c0_1) (hs1 : Kd.V (Kd.int .i64) 3 w w.heap.size (fun k_ => P1_ k_) (.slice A1 l1.length c1) l1) (hs2_0 : Kd.V (Kd.int .i64) 3 w w.heap.size (fun k_ => P2_0_ k_) (.slice A2_0 l2_0.length c2_0) l2_0) (hs2_1 : Kd.V (Kd.int .i64) 3 w w.heap.size (fun k_ => P2_1_ k_) (.slice A2_1 l2_1.length c2_1) l2_1) (h : dropperlaw06_KeyHolds.f k a0_0 l0_1 l1 l2_0 l2_1 = some r) :
  Calls Try.prog 4 #[.agg #[.int .i64 a0_0, .slice A0_1 l0_1.length c0_1], .slice A1 l1.length c1, .agg #[.slice A2_0 l2_0.length c2_0, .slice A2_1 l2_1.length c2_1]] w fun e w' => e = .returned (.bool r) ∧ Below w.heap.size w w' := by
 have hu24 := Try.underlying24
 have hu47 := Try.underlying47
 have HR0_1 := Aside0.mk hr0_1
 have HC0_1 := Aside0.mk hc0_1
 clear hr0_1 hc0_1
 have HO1 := Aside0.mk (show Kd.V (Kd.int .i64) 3 w w.heap.size (fun k_ => ((P1_ k_ ∨ P2_0_ k_ ∨ P2_1_ k_) ∨ w.heap.size ≤ k_)) (.slice A1 l1.length c1) l1 from Kd.V_mono hs1 (fun k_ hk => .inl (.inl hk)))
 have HO2_0 := Aside0.mk (show Kd.V (Kd.int .i64) 3 w w.heap.size (fun k_ => ((P1_ k_ ∨ P2_0_ k_ ∨ P2_1_ k_) ∨ w.heap.size ≤ k_)) (.slice A2_0 l2_0.length c2_0) l2_0 from Kd.V_mono hs2_0 (fun k_ hk => .inl (.inr (.inl hk))))
 have HO2_1 := Aside0.mk (show Kd.V (Kd.int .i64) 3 w w.heap.size (fun k_ => ((P1_ k_ ∨ P2_0_ k_ ∨ P2_1_ k_) ∨ w.heap.size ≤ k_)) (.slice A2_1 l2_1.length c2_1) l2_1 from Kd.V_mono hs2_1 (fun k_ hk => .inl (.inr (.inr hk))))
 have HB := Aside0.mk (Below.refl w.heap.size w)
 have H : ((dropperlaw06_Large.f k a0_0 l0_1 (([l1, l2_0, l2_1] : List (List Int)))).bind fun t270 => (if t270 = true then ((dropperlaw06_Awake.f k).bind fun t271 => (some t271)) else ((key_Holds.f k a0_0 l0_1 l1).bind fun bt272 => ((dropperref06_Holds.f k a0_0 l0_1 l1).bind fun bt274 => (if (bt272.1 != bt274.1) = true then (dropperlaw06_KeyHolds.j0 k l1 true a0_0 l0_1 l2_0 l2_1) else (dropperlaw06_KeyHolds.j0 k l1 (bt272.2 != bt274.2) a0_0 l0_1 l2_0 l2_1)))))) = some r := h
 clear h
 obtain ⟨y267, hy267⟩ : ∃ y_ : List (List Int), y_ = (([l1, l2_0, l2_1] : List (List Int))) := ⟨_, rfl⟩
 replace H : ((dropperlaw06_Large.f k a0_0 l0_1 y267).bind fun t270 => (if t270 = true then ((dropperlaw06_Awake.f k).bind fun t271 => (some t271)) else ((key_Holds.f k a0_0 l0_1 l1).bind fun bt272 => ((dropperref06_Holds.f k a0_0 l0_1 l1).bind fun bt274 => (if (bt272.1 != bt274.1) = true then (dropperlaw06_KeyHolds.j0 k l1 true a0_0 l0_1 l2_0 l2_1) else (dropperlaw06_KeyHolds.j0 k l1 (bt272.2 != bt274.2) a0_0 l0_1 l2_0 l2_1)))))) = some r := by first | (rw [hy267]; with_reducible exact H) | (have H2_ := (Option.bind_some _ _).symm.trans H; rw [hy267]; with_reducible exact H2_) | (have H2_ := (Option.bind_some _ _).symm.trans H; with_reducible exact H2_) | with_reducible exact H | (rw [hy267]; exact H) | exact H
 have Ny267 := Aside0.mk hy267
 clear hy267
 replace H := Option.bind_eq_some_iff.mp H
 obtain ⟨t270, A40, H⟩ := H
 try dsimp only at H
 have A4 := Aside0.mk A40
 clear A40
 by_cases c5 : t270 = true
 ·
  subst c5
  rw [if_pos rfl] at H
  replace H := Option.bind_eq_some_iff.mp H
  obtain ⟨t271, A60, H⟩ := H
  try dsimp only at H
  have A6 := Aside0.mk A60
  clear A60
  obtain rfl := Option.some.inj H
  go_enter Try.func4, Try.ntmps4
  go_wp2_with (first | ((with_reducible refine gate_dst (N := 3) rfl ?_); refine box_event ?hg (N := 3) ?hd (cs := #[.int .i64 a0_0, .slice A0_1 l0_1.length c0_1]) (t := 24) ?hr ?_; (case hd => rfl); (case hg => rfl); (case hr => first | (go_simp; done) | (go_simp; rfl)); intro gb265 hg w7 hbox hb; have BK265 := Aside0.mk (hbox); have GW265 := bsz (w := w) hg; have GE265 := GW265; replace HO1 := Aside0.mk (Kd.V_below (Kd.V_elderB (by (with_reducible repeat (first | apply Kd.V_alloc | apply Kd.V_drewN | apply Kd.V_drew)); exact HO1.out) gb265 (Nat.le_of_eq hg.symm)) hb); replace HO2_0 := Aside0.mk (Kd.V_below (Kd.V_elderB (by (with_reducible repeat (first | apply Kd.V_alloc | apply Kd.V_drewN | apply Kd.V_drew)); exact HO2_0.out) gb265 (Nat.le_of_eq hg.symm)) hb); replace HO2_1 := Aside0.mk (Kd.V_below (Kd.V_elderB (by (with_reducible repeat (first | apply Kd.V_alloc | apply Kd.V_drewN | apply Kd.V_drew)); exact HO2_1.out) gb265 (Nat.le_of_eq hg.symm)) hb); replace HB := Aside0.mk (below_step bel hb); clear hb hbox hg) | ((with_reducible refine gate_dst (N := 5) rfl ?_); refine box_event ?hg (N := 5) ?hd (cs := #[.slice A2_0 l2_0.length c2_0, .slice A2_1 l2_1.length c2_1]) (t := 47) ?hr ?_; (case hd => rfl); (case hg => rfl); (case hr => first | (go_simp; done) | (go_simp; rfl)); intro gb266 hg w8 hbox hb; have BK266 := Aside0.mk (hbox); have GW266 := bsz (w := w) hg; have GE266 := GW266; have NB265_266 := neL (g := gb265) hg; have NB266_265 := neR (g := gb265) hg; replace HO1 := Aside0.mk (Kd.V_below (Kd.V_elderB (by (with_reducible repeat (first | apply Kd.V_alloc | apply Kd.V_drewN | apply Kd.V_drew)); exact HO1.out) gb266 (Nat.le_of_eq hg.symm)) hb); replace HO2_0 := Aside0.mk (Kd.V_below (Kd.V_elderB (by (with_reducible repeat (first | apply Kd.V_alloc | apply Kd.V_drewN | apply Kd.V_drew)); exact HO2_0.out) gb266 (Nat.le_of_eq hg.symm)) hb); replace HO2_1 := Aside0.mk (Kd.V_below (Kd.V_elderB (by (with_reducible repeat (first | apply Kd.V_alloc | apply Kd.V_drewN | apply Kd.V_drew)); exact HO2_1.out) gb266 (Nat.le_of_eq hg.symm)) hb); replace BK265 := Aside0.mk (blk_below (g := gb265) blkz hb); replace HB := Aside0.mk (below_step bel hb); clear hb hbox hg; have hnb9 := NB265_266.out; have hnc9 := NB266_265.out; obtain ⟨hcz10_0, hcz10_1⟩ := bc2 BK265.out; obtain ⟨hcz11_0, hcz11_1⟩ := bc2 BK266.out) | ((with_reducible refine gate_dst (N := 21) rfl ?_); refine Kd.N_lit (Kd.slice 3 (Kd.int .i64)) _ 25 ?hg (N' := 21) ?hd (xs := ([l1, l2_0, l2_1] : List (List Int))) (inner := [.slice A1 l1.length c1, .slice A2_0 l2_0.length c2_0, .slice A2_1 l2_1.length c2_1]) (ok := (fun k_ => ((P1_ k_ ∨ P2_0_ k_ ∨ P2_1_ k_) ∨ w.heap.size ≤ k_) ∧ k_ ≠ gb265 ∧ k_ ≠ gb266)) (okp := (fun k_ => ((P1_ k_ ∨ P2_0_ k_ ∨ P2_1_ k_) ∨ w.heap.size ≤ k_) ∧ k_ ≠ gb265 ∧ k_ ≠ gb266)) ?hr ?hp (fun _ hk => hk) ((show ∀ k_, w8.heap.size ≤ k_ → (fun k_ => ((P1_ k_ ∨ P2_0_ k_ ∨ P2_1_ k_) ∨ w.heap.size ≤ k_) ∧ k_ ≠ gb265 ∧ k_ ≠ gb266) k_ from fun k_ hk => ⟨(.inr (Nat.le_trans (below_size bel) hk)), Kd.freshB (g := gb265) (o := .cells #[.int .i64 a0_0, .slice A0_1 l0_1.length c0_1] 24 (0, 0)) blkz k_ hk, Kd.freshB (g := gb266) (o := .cells #[.slice A2_0 l2_0.length c2_0, .slice A2_1 l2_1.length c2_1] 47 (0, 0)) blkz k_ hk⟩) _ (Nat.le_refl _)) (Below.refl _ _) (Nat.le_refl _) (by simp) ?_; (case hd => rfl); (case hg => rfl); (case hr => first | (go_simp; done) | (go_simp; rfl)); (case hp => exact (Reps.one (show Kd.FK (Kd.slice 3 (Kd.int .i64)) _ _ l1 [.slice A1 l1.length c1] from (Kd.FK_slice_mk (Kd.V_reads' (Kd.V_mono (ok' := (fun k_ => ((P1_ k_ ∨ P2_0_ k_ ∨ P2_1_ k_) ∨ w.heap.size ≤ k_) ∧ k_ ≠ gb265 ∧ k_ ≠ gb266)) (HO1.out) (fun k_ hk => ⟨hk.1.1, ⟨hk.1.2, hk.2⟩⟩))).2.1 (Kd.V_F (Kd.V_mono (ok' := (fun k_ => ((P1_ k_ ∨ P2_0_ k_ ∨ P2_1_ k_) ∨ w.heap.size ≤ k_) ∧ k_ ≠ gb265 ∧ k_ ≠ gb266)) (HO1.out) (fun k_ hk => ⟨hk.1.1, ⟨hk.1.2, hk.2⟩⟩))))) (Reps.one (show Kd.FK (Kd.slice 3 (Kd.int .i64)) _ _ l2_0 [.slice A2_0 l2_0.length c2_0] from (Kd.FK_slice_mk (Kd.V_reads' (Kd.V_mono (ok' := (fun k_ => ((P1_ k_ ∨ P2_0_ k_ ∨ P2_1_ k_) ∨ w.heap.size ≤ k_) ∧ k_ ≠ gb265 ∧ k_ ≠ gb266)) (HO2_0.out) (fun k_ hk => ⟨hk.1.1, ⟨hk.1.2, hk.2⟩⟩))).2.1 (Kd.V_F (Kd.V_mono (ok' := (fun k_ => ((P1_ k_ ∨ P2_0_ k_ ∨ P2_1_ k_) ∨ w.heap.size ≤ k_) ∧ k_ ≠ gb265 ∧ k_ ≠ gb266)) (HO2_0.out) (fun k_ hk => ⟨hk.1.1, ⟨hk.1.2, hk.2⟩⟩))))) (Reps.one (show Kd.FK (Kd.slice 3 (Kd.int .i64)) _ _ l2_1 [.slice A2_1 l2_1.length c2_1] from (Kd.FK_slice_mk (Kd.V_reads' (Kd.V_mono (ok' := (fun k_ => ((P1_ k_ ∨ P2_0_ k_ ∨ P2_1_ k_) ∨ w.heap.size ≤ k_) ∧ k_ ≠ gb265 ∧ k_ ≠ gb266)) (HO2_1.out) (fun k_ hk => ⟨hk.1.1, ⟨hk.1.2, hk.2⟩⟩))).2.1 (Kd.V_F (Kd.V_mono (ok' := (fun k_ => ((P1_ k_ ∨ P2_0_ k_ ∨ P2_1_ k_) ∨ w.heap.size ≤ k_) ∧ k_ ≠ gb265 ∧ k_ ≠ gb266)) (HO2_1.out) (fun k_ hk => ⟨hk.1.1, ⟨hk.1.2, hk.2⟩⟩))))) (Reps.none _ _))))); intro v268 w12 ho13 hb hg_ hnew_; clear hg_ hnew_; (first | rw [← Ny267.out] at ho13 | (simp only [Int.reduceToNat] at ho13; rw [← Ny267.out] at ho13)); have HO269 := Aside0.mk (Kd.N_lower ho13 (below_size bel)); replace HO1 := Aside0.mk (Kd.V_elder' (by (with_reducible repeat (first | apply Kd.V_alloc | apply Kd.V_drewN | apply Kd.V_drew)); exact HO1.out) (Kd.N_base ho13) hb); replace HO2_0 := Aside0.mk (Kd.V_elder' (by (with_reducible repeat (first | apply Kd.V_alloc | apply Kd.V_drewN | apply Kd.V_drew)); exact HO2_0.out) (Kd.N_base ho13) hb); replace HO2_1 := Aside0.mk (Kd.V_elder' (by (with_reducible repeat (first | apply Kd.V_alloc | apply Kd.V_drewN | apply Kd.V_drew)); exact HO2_1.out) (Kd.N_base ho13) hb); replace BK265 := Aside0.mk (blk_below (g := gb265) blkz hb); replace BK266 := Aside0.mk (blk_below (g := gb266) blkz hb); replace HB := Aside0.mk (below_step bel hb); clear hb ho13; obtain ⟨Ao14, co14, eo14⟩ := Kd.N_slice HO269.out; subst eo14) | ((with_reducible refine gate_callee (f := 29) rfl ?_); refine goesL_ (some 22) rfl rfl Try.func29 (by kernel_rfl) rfl #[.agg #[.int .i64 a0_0, .slice A0_1 l0_1.length c0_1], .slice Ao14 y267.length co14] rfl mapz ?_; (with_reducible refine (dropperlaw06_Large.calls k a0_0 _ _ l0_1 _ _ y267 true _ (cbz HR0_1) HC0_1.out ?side3 ?side4 A4.out).mono ?_); (case side3 => repeat (first | exact (Kd.N_reads' HO269.out).2.2 | (with_reducible refine Kd.C_alloc ?_ _) | (with_reducible refine Kd.C_drewN ?_ _) | (with_reducible refine Kd.C_drew ?_))); (case side4 => exact (Kd.N_reads' HO269.out).2.1); rintro e w15 ⟨rfl, hb⟩; refine ⟨_, rfl, ?_⟩; replace HO1 := Aside0.mk (Kd.V_below (by (with_reducible repeat (first | apply Kd.V_alloc | apply Kd.V_drewN | apply Kd.V_drew)); exact HO1.out) hb); replace HO2_0 := Aside0.mk (Kd.V_below (by (with_reducible repeat (first | apply Kd.V_alloc | apply Kd.V_drewN | apply Kd.V_drew)); exact HO2_0.out) hb); replace HO2_1 := Aside0.mk (Kd.V_below (by (with_reducible repeat (first | apply Kd.V_alloc | apply Kd.V_drewN | apply Kd.V_drew)); exact HO2_1.out) hb); replace HO269 := Aside0.mk (Kd.N_below (by (with_reducible repeat (first | apply Kd.N_alloc | apply Kd.N_drewN | apply Kd.N_drew)); exact HO269.out) hb); replace BK265 := Aside0.mk (blk_below (g := gb265) blkz hb); replace BK266 := Aside0.mk (blk_below (g := gb266) blkz hb); replace HB := Aside0.mk (below_step bel hb); clear hb) | ((with_reducible refine gate_callee (f := 15) rfl ?_); refine goesL_ (some 23) rfl rfl Try.func15 (by kernel_rfl) rfl #[] rfl mapz ?_; (with_reducible refine (dropperlaw06_Awake.calls k  t271 _ A6.out).mono ?_); rintro e w16 ⟨rfl, hb⟩; refine ⟨_, rfl, ?_⟩; replace HO1 := Aside0.mk (Kd.V_below (by (with_reducible repeat (first | apply Kd.V_alloc | apply Kd.V_drewN | apply Kd.V_drew)); exact HO1.out) hb); replace HO2_0 := Aside0.mk (Kd.V_below (by (with_reducible repeat (first | apply Kd.V_alloc | apply Kd.V_drewN | apply Kd.V_drew)); exact HO2_0.out) hb); replace HO2_1 := Aside0.mk (Kd.V_below (by (with_reducible repeat (first | apply Kd.V_alloc | apply Kd.V_drewN | apply Kd.V_drew)); exact HO2_1.out) hb); replace HO269 := Aside0.mk (Kd.N_below (by (with_reducible repeat (first | apply Kd.N_alloc | apply Kd.N_drewN | apply Kd.N_drew)); exact HO269.out) hb); replace BK265 := Aside0.mk (blk_below (g := gb265) blkz hb); replace BK266 := Aside0.mk (blk_below (g := gb266) blkz hb); replace HB := Aside0.mk (below_step bel hb); clear hb))
  go_ret
  exact ⟨ezz, bel⟩
 ·
  replace c5 := Bool.eq_false_iff.mpr c5
  subst c5
  rw [if_neg (show ¬ (false = true) by decide)] at H
  replace H := Option.bind_eq_some_iff.mp H
  obtain ⟨⟨t272, t273⟩, A170, H⟩ := H
  try dsimp only at H
  have A17 := Aside0.mk A170
  clear A170
  replace H := Option.bind_eq_some_iff.mp H
  obtain ⟨⟨t274, t275⟩, A180, H⟩ := H
  try dsimp only at H
  have A18 := Aside0.mk A180
  clear A180
  have HC19 := Aside0.mk H
  clear H
  go_enter Try.func4, Try.ntmps4
  go_upto_region 5 with (first | ((with_reducible refine gate_dst (N := 3) rfl ?_); refine box_event ?hg (N := 3) ?hd (cs := #[.int .i64 a0_0, .slice A0_1 l0_1.length c0_1]) (t := 24) ?hr ?_; (case hd => rfl); (case hg => rfl); (case hr => first | (go_simp; done) | (go_simp; rfl)); intro gb265 hg w20 hbox hb; have BK265 := Aside0.mk (hbox); have GW265 := bsz (w := w) hg; have GE265 := GW265; replace HO1 := Aside0.mk (Kd.V_below (Kd.V_elderB (by (with_reducible repeat (first | apply Kd.V_alloc | apply Kd.V_drewN | apply Kd.V_drew)); exact HO1.out) gb265 (Nat.le_of_eq hg.symm)) hb); replace HO2_0 := Aside0.mk (Kd.V_below (Kd.V_elderB (by (with_reducible repeat (first | apply Kd.V_alloc | apply Kd.V_drewN | apply Kd.V_drew)); exact HO2_0.out) gb265 (Nat.le_of_eq hg.symm)) hb); replace HO2_1 := Aside0.mk (Kd.V_below (Kd.V_elderB (by (with_reducible repeat (first | apply Kd.V_alloc | apply Kd.V_drewN | apply Kd.V_drew)); exact HO2_1.out) gb265 (Nat.le_of_eq hg.symm)) hb); replace HB := Aside0.mk (below_step bel hb); clear hb hbox hg) | ((with_reducible refine gate_dst (N := 5) rfl ?_); refine box_event ?hg (N := 5) ?hd (cs := #[.slice A2_0 l2_0.length c2_0, .slice A2_1 l2_1.length c2_1]) (t := 47) ?hr ?_; (case hd => rfl); (case hg => rfl); (case hr => first | (go_simp; done) | (go_simp; rfl)); intro gb266 hg w21 hbox hb; have BK266 := Aside0.mk (hbox); have GW266 := bsz (w := w) hg; have GE266 := GW266; have NB265_266 := neL (g := gb265) hg; have NB266_265 := neR (g := gb265) hg; replace HO1 := Aside0.mk (Kd.V_below (Kd.V_elderB (by (with_reducible repeat (first | apply Kd.V_alloc | apply Kd.V_drewN | apply Kd.V_drew)); exact HO1.out) gb266 (Nat.le_of_eq hg.symm)) hb); replace HO2_0 := Aside0.mk (Kd.V_below (Kd.V_elderB (by (with_reducible repeat (first | apply Kd.V_alloc | apply Kd.V_drewN | apply Kd.V_drew)); exact HO2_0.out) gb266 (Nat.le_of_eq hg.symm)) hb); replace HO2_1 := Aside0.mk (Kd.V_below (Kd.V_elderB (by (with_reducible repeat (first | apply Kd.V_alloc | apply Kd.V_drewN | apply Kd.V_drew)); exact HO2_1.out) gb266 (Nat.le_of_eq hg.symm)) hb); replace BK265 := Aside0.mk (blk_below (g := gb265) blkz hb); replace HB := Aside0.mk (below_step bel hb); clear hb hbox hg; have hnb22 := NB265_266.out; have hnc22 := NB266_265.out; obtain ⟨hcz23_0, hcz23_1⟩ := bc2 BK265.out; obtain ⟨hcz24_0, hcz24_1⟩ := bc2 BK266.out) | ((with_reducible refine gate_dst (N := 21) rfl ?_); refine Kd.N_lit (Kd.slice 3 (Kd.int .i64)) _ 25 ?hg (N' := 21) ?hd (xs := ([l1, l2_0, l2_1] : List (List Int))) (inner := [.slice A1 l1.length c1, .slice A2_0 l2_0.length c2_0, .slice A2_1 l2_1.length c2_1]) (ok := (fun k_ => ((P1_ k_ ∨ P2_0_ k_ ∨ P2_1_ k_) ∨ w.heap.size ≤ k_) ∧ k_ ≠ gb265 ∧ k_ ≠ gb266)) (okp := (fun k_ => ((P1_ k_ ∨ P2_0_ k_ ∨ P2_1_ k_) ∨ w.heap.size ≤ k_) ∧ k_ ≠ gb265 ∧ k_ ≠ gb266)) ?hr ?hp (fun _ hk => hk) ((show ∀ k_, w21.heap.size ≤ k_ → (fun k_ => ((P1_ k_ ∨ P2_0_ k_ ∨ P2_1_ k_) ∨ w.heap.size ≤ k_) ∧ k_ ≠ gb265 ∧ k_ ≠ gb266) k_ from fun k_ hk => ⟨(.inr (Nat.le_trans (below_size bel) hk)), Kd.freshB (g := gb265) (o := .cells #[.int .i64 a0_0, .slice A0_1 l0_1.length c0_1] 24 (0, 0)) blkz k_ hk, Kd.freshB (g := gb266) (o := .cells #[.slice A2_0 l2_0.length c2_0, .slice A2_1 l2_1.length c2_1] 47 (0, 0)) blkz k_ hk⟩) _ (Nat.le_refl _)) (Below.refl _ _) (Nat.le_refl _) (by simp) ?_; (case hd => rfl); (case hg => rfl); (case hr => first | (go_simp; done) | (go_simp; rfl)); (case hp => exact (Reps.one (show Kd.FK (Kd.slice 3 (Kd.int .i64)) _ _ l1 [.slice A1 l1.length c1] from (Kd.FK_slice_mk (Kd.V_reads' (Kd.V_mono (ok' := (fun k_ => ((P1_ k_ ∨ P2_0_ k_ ∨ P2_1_ k_) ∨ w.heap.size ≤ k_) ∧ k_ ≠ gb265 ∧ k_ ≠ gb266)) (HO1.out) (fun k_ hk => ⟨hk.1.1, ⟨hk.1.2, hk.2⟩⟩))).2.1 (Kd.V_F (Kd.V_mono (ok' := (fun k_ => ((P1_ k_ ∨ P2_0_ k_ ∨ P2_1_ k_) ∨ w.heap.size ≤ k_) ∧ k_ ≠ gb265 ∧ k_ ≠ gb266)) (HO1.out) (fun k_ hk => ⟨hk.1.1, ⟨hk.1.2, hk.2⟩⟩))))) (Reps.one (show Kd.FK (Kd.slice 3 (Kd.int .i64)) _ _ l2_0 [.slice A2_0 l2_0.length c2_0] from (Kd.FK_slice_mk (Kd.V_reads' (Kd.V_mono (ok' := (fun k_ => ((P1_ k_ ∨ P2_0_ k_ ∨ P2_1_ k_) ∨ w.heap.size ≤ k_) ∧ k_ ≠ gb265 ∧ k_ ≠ gb266)) (HO2_0.out) (fun k_ hk => ⟨hk.1.1, ⟨hk.1.2, hk.2⟩⟩))).2.1 (Kd.V_F (Kd.V_mono (ok' := (fun k_ => ((P1_ k_ ∨ P2_0_ k_ ∨ P2_1_ k_) ∨ w.heap.size ≤ k_) ∧ k_ ≠ gb265 ∧ k_ ≠ gb266)) (HO2_0.out) (fun k_ hk => ⟨hk.1.1, ⟨hk.1.2, hk.2⟩⟩))))) (Reps.one (show Kd.FK (Kd.slice 3 (Kd.int .i64)) _ _ l2_1 [.slice A2_1 l2_1.length c2_1] from (Kd.FK_slice_mk (Kd.V_reads' (Kd.V_mono (ok' := (fun k_ => ((P1_ k_ ∨ P2_0_ k_ ∨ P2_1_ k_) ∨ w.heap.size ≤ k_) ∧ k_ ≠ gb265 ∧ k_ ≠ gb266)) (HO2_1.out) (fun k_ hk => ⟨hk.1.1, ⟨hk.1.2, hk.2⟩⟩))).2.1 (Kd.V_F (Kd.V_mono (ok' := (fun k_ => ((P1_ k_ ∨ P2_0_ k_ ∨ P2_1_ k_) ∨ w.heap.size ≤ k_) ∧ k_ ≠ gb265 ∧ k_ ≠ gb266)) (HO2_1.out) (fun k_ hk => ⟨hk.1.1, ⟨hk.1.2, hk.2⟩⟩))))) (Reps.none _ _))))); intro v268 w25 ho26 hb hg_ hnew_; clear hg_ hnew_; (first | rw [← Ny267.out] at ho26 | (simp only [Int.reduceToNat] at ho26; rw [← Ny267.out] at ho26)); have HO269 := Aside0.mk (Kd.N_lower ho26 (below_size bel)); replace HO1 := Aside0.mk (Kd.V_elder' (by (with_reducible repeat (first | apply Kd.V_alloc | apply Kd.V_drewN | apply Kd.V_drew)); exact HO1.out) (Kd.N_base ho26) hb); replace HO2_0 := Aside0.mk (Kd.V_elder' (by (with_reducible repeat (first | apply Kd.V_alloc | apply Kd.V_drewN | apply Kd.V_drew)); exact HO2_0.out) (Kd.N_base ho26) hb); replace HO2_1 := Aside0.mk (Kd.V_elder' (by (with_reducible repeat (first | apply Kd.V_alloc | apply Kd.V_drewN | apply Kd.V_drew)); exact HO2_1.out) (Kd.N_base ho26) hb); replace BK265 := Aside0.mk (blk_below (g := gb265) blkz hb); replace BK266 := Aside0.mk (blk_below (g := gb266) blkz hb); replace HB := Aside0.mk (below_step bel hb); clear hb ho26; obtain ⟨Ao27, co27, eo27⟩ := Kd.N_slice HO269.out; subst eo27) | ((with_reducible refine gate_callee (f := 29) rfl ?_); refine goesL_ (some 22) rfl rfl Try.func29 (by kernel_rfl) rfl #[.agg #[.int .i64 a0_0, .slice A0_1 l0_1.length c0_1], .slice Ao27 y267.length co27] rfl mapz ?_; (with_reducible refine (dropperlaw06_Large.calls k a0_0 _ _ l0_1 _ _ y267 false _ (cbz HR0_1) HC0_1.out ?side3 ?side4 A4.out).mono ?_); (case side3 => repeat (first | exact (Kd.N_reads' HO269.out).2.2 | (with_reducible refine Kd.C_alloc ?_ _) | (with_reducible refine Kd.C_drewN ?_ _) | (with_reducible refine Kd.C_drew ?_))); (case side4 => exact (Kd.N_reads' HO269.out).2.1); rintro e w28 ⟨rfl, hb⟩; refine ⟨_, rfl, ?_⟩; replace HO1 := Aside0.mk (Kd.V_below (by (with_reducible repeat (first | apply Kd.V_alloc | apply Kd.V_drewN | apply Kd.V_drew)); exact HO1.out) hb); replace HO2_0 := Aside0.mk (Kd.V_below (by (with_reducible repeat (first | apply Kd.V_alloc | apply Kd.V_drewN | apply Kd.V_drew)); exact HO2_0.out) hb); replace HO2_1 := Aside0.mk (Kd.V_below (by (with_reducible repeat (first | apply Kd.V_alloc | apply Kd.V_drewN | apply Kd.V_drew)); exact HO2_1.out) hb); replace HO269 := Aside0.mk (Kd.N_below (by (with_reducible repeat (first | apply Kd.N_alloc | apply Kd.N_drewN | apply Kd.N_drew)); exact HO269.out) hb); replace BK265 := Aside0.mk (blk_below (g := gb265) blkz hb); replace BK266 := Aside0.mk (blk_below (g := gb266) blkz hb); replace HB := Aside0.mk (below_step bel hb); clear hb; obtain ⟨hcz29_0, hcz29_1⟩ := bc2 BK265.out) | ((with_reducible refine gate_callee (f := 21) rfl ?_); refine goesL_ (some 27) rfl rfl Try.func21 (by kernel_rfl) rfl #[.agg #[.int .i64 a0_0, .slice A0_1 l0_1.length c0_1], .slice A1 l1.length c1] rfl mapz ?_; (with_reducible refine (key_Holds.calls k a0_0 _ _ l0_1 _ _ l1 t272 t273 _ (cbz HR0_1) HC0_1.out ?side3 ?side4 A17.out).mono ?_); (case side3 => repeat (first | exact (Kd.V_reads' HO1.out).2.2 | (with_reducible refine Kd.C_alloc ?_ _) | (with_reducible refine Kd.C_drewN ?_ _) | (with_reducible refine Kd.C_drew ?_))); (case side4 => exact (Kd.V_reads' HO1.out).2.1); rintro e w30 ⟨rfl, hb⟩; refine ⟨_, rfl, ?_⟩; replace HO1 := Aside0.mk (Kd.V_below (by (with_reducible repeat (first | apply Kd.V_alloc | apply Kd.V_drewN | apply Kd.V_drew)); exact HO1.out) hb); replace HO2_0 := Aside0.mk (Kd.V_below (by (with_reducible repeat (first | apply Kd.V_alloc | apply Kd.V_drewN | apply Kd.V_drew)); exact HO2_0.out) hb); replace HO2_1 := Aside0.mk (Kd.V_below (by (with_reducible repeat (first | apply Kd.V_alloc | apply Kd.V_drewN | apply Kd.V_drew)); exact HO2_1.out) hb); replace HO269 := Aside0.mk (Kd.N_below (by (with_reducible repeat (first | apply Kd.N_alloc | apply Kd.N_drewN | apply Kd.N_drew)); exact HO269.out) hb); replace BK265 := Aside0.mk (blk_below (g := gb265) blkz hb); replace BK266 := Aside0.mk (blk_below (g := gb266) blkz hb); replace HB := Aside0.mk (below_step bel hb); clear hb; obtain ⟨hcz31_0, hcz31_1⟩ := bc2 BK265.out) | ((with_reducible refine gate_callee (f := 30) rfl ?_); refine goesL_ (some 33) rfl rfl Try.func30 (by kernel_rfl) rfl #[.agg #[.int .i64 a0_0, .slice A0_1 l0_1.length c0_1], .slice A1 l1.length c1] rfl mapz ?_; (with_reducible refine (dropperref06_Holds.calls k a0_0 _ _ l0_1 _ _ l1 t274 t275 _ (cbz HR0_1) HC0_1.out ?side3 ?side4 A18.out).mono ?_); (case side3 => repeat (first | exact (Kd.V_reads' HO1.out).2.2 | (with_reducible refine Kd.C_alloc ?_ _) | (with_reducible refine Kd.C_drewN ?_ _) | (with_reducible refine Kd.C_drew ?_))); (case side4 => exact (Kd.V_reads' HO1.out).2.1); rintro e w32 ⟨rfl, hb⟩; refine ⟨_, rfl, ?_⟩; replace HO1 := Aside0.mk (Kd.V_below (by (with_reducible repeat (first | apply Kd.V_alloc | apply Kd.V_drewN | apply Kd.V_drew)); exact HO1.out) hb); replace HO2_0 := Aside0.mk (Kd.V_below (by (with_reducible repeat (first | apply Kd.V_alloc | apply Kd.V_drewN | apply Kd.V_drew)); exact HO2_0.out) hb); replace HO2_1 := Aside0.mk (Kd.V_below (by (with_reducible repeat (first | apply Kd.V_alloc | apply Kd.V_drewN | apply Kd.V_drew)); exact HO2_1.out) hb); replace HO269 := Aside0.mk (Kd.N_below (by (with_reducible repeat (first | apply Kd.N_alloc | apply Kd.N_drewN | apply Kd.N_drew)); exact HO269.out) hb); replace BK265 := Aside0.mk (blk_below (g := gb265) blkz hb); replace BK266 := Aside0.mk (blk_below (g := gb266) blkz hb); replace HB := Aside0.mk (below_step bel hb); clear hb))
  (try simp only [Act.put, List.setIfInBounds_toArray, List.set_cons_zero, List.set_cons_succ])
  go_cut [43] (fun v43 wc => ∃ (kq : Nat) (x43_18 : Bool), v43 = .bool x43_18 ∧ Aside0 (dropperlaw06_KeyHolds.j0 kq l1 x43_18 a0_0 l0_1 l2_0 l2_1 = some r) ∧ Aside0 (kq ≤ k) ∧ Aside0 (Kd.V (Kd.int .i64) 3 wc w.heap.size (fun k_ => ((P1_ k_ ∨ P2_0_ k_ ∨ P2_1_ k_) ∨ w.heap.size ≤ k_) ∧ k_ ≠ gb265 ∧ k_ ≠ gb266) (.slice A1 l1.length c1) l1) ∧ Aside0 (Kd.V (Kd.int .i64) 3 wc w.heap.size (fun k_ => ((P1_ k_ ∨ P2_0_ k_ ∨ P2_1_ k_) ∨ w.heap.size ≤ k_) ∧ k_ ≠ gb265 ∧ k_ ≠ gb266) (.slice A2_0 l2_0.length c2_0) l2_0) ∧ Aside0 (Kd.V (Kd.int .i64) 3 wc w.heap.size (fun k_ => ((P1_ k_ ∨ P2_0_ k_ ∨ P2_1_ k_) ∨ w.heap.size ≤ k_) ∧ k_ ≠ gb265 ∧ k_ ≠ gb266) (.slice A2_1 l2_1.length c2_1) l2_1) ∧ Aside0 (wc.heap[gb265]? = some (.cells #[.int .i64 a0_0, (.slice A0_1 l0_1.length c0_1)] 24 (0, 0))) ∧ Aside0 (wc.heap[gb266]? = some (.cells #[(.slice A2_0 l2_0.length c2_0), (.slice A2_1 l2_1.length c2_1)] 47 (0, 0))) ∧ Aside0 (Below w.heap.size w wc))
  case first =>
   have H := HC19.out
   clear HC19
   by_cases c33 : (t272 != t274) = true
   ·
    rw [if_pos c33] at H
    have c33b0 : (t272 != t274) = true := c33
    (try (have c33b1 : decide (t272 = t274) = false := by simpa using c33))
    (try (have c33b2 : (t272 == t274) = false := by simpa using c33))
    (try (have c33b3 : ¬ (t272 = t274) := by simpa using c33))
    clear c33
    (first | rw [c33b0] | (simp only [i64_w, i32_w]; rw [c33b0]) | skip)
    have H' := Aside0.mk H
    clear H
    go_wp2
    go_meet
    case rel => exact ⟨_, (true), rsz, H', ⟨by first | omega | exact Nat.le_refl _⟩, ⟨by (with_reducible repeat (first | apply Kd.V_alloc | apply Kd.V_drewN | apply Kd.V_drew)); exact Kd.V_mono HO1.out (fun _ hk => ⟨hk.1.1.1, ⟨hk.1.1.2, hk.1.2⟩⟩)⟩, ⟨by (with_reducible repeat (first | apply Kd.V_alloc | apply Kd.V_drewN | apply Kd.V_drew)); exact Kd.V_mono HO2_0.out (fun _ hk => ⟨hk.1.1.1, ⟨hk.1.1.2, hk.1.2⟩⟩)⟩, ⟨by (with_reducible repeat (first | apply Kd.V_alloc | apply Kd.V_drewN | apply Kd.V_drew)); exact Kd.V_mono HO2_1.out (fun _ hk => ⟨hk.1.1.1, ⟨hk.1.1.2, hk.1.2⟩⟩)⟩, ⟨blkz⟩, ⟨blkz⟩, ⟨bel⟩⟩
   ·
    rw [if_neg c33] at H
    have c33b0 : (t272 != t274) = false := by simpa using c33
    (try (have c33b1 : decide (t272 = t274) = true := by simpa using c33))
    (try (have c33b2 : (t272 == t274) = true := by simpa using c33))
    clear c33
    (first | rw [c33b0] | (simp only [i64_w, i32_w]; rw [c33b0]) | skip)
    have H' := Aside0.mk H
    clear H
    go_wp2
    go_meet
    case rel => exact ⟨_, ((t273 != t275)), rsz, H', ⟨by first | omega | exact Nat.le_refl _⟩, ⟨by (with_reducible repeat (first | apply Kd.V_alloc | apply Kd.V_drewN | apply Kd.V_drew)); exact Kd.V_mono HO1.out (fun _ hk => ⟨hk.1.1.1, ⟨hk.1.1.2, hk.1.2⟩⟩)⟩, ⟨by (with_reducible repeat (first | apply Kd.V_alloc | apply Kd.V_drewN | apply Kd.V_drew)); exact Kd.V_mono HO2_0.out (fun _ hk => ⟨hk.1.1.1, ⟨hk.1.1.2, hk.1.2⟩⟩)⟩, ⟨by (with_reducible repeat (first | apply Kd.V_alloc | apply Kd.V_drewN | apply Kd.V_drew)); exact Kd.V_mono HO2_1.out (fun _ hk => ⟨hk.1.1.1, ⟨hk.1.1.2, hk.1.2⟩⟩)⟩, ⟨blkz⟩, ⟨blkz⟩, ⟨bel⟩⟩
  case rest =>
   clear HC19
   (try clear c1); (try clear c2); (try clear p2); (try clear c3); (try clear c4); (try clear c5); (try clear c9); (try clear c15); (try clear c21); (try clear c22); (try clear c29); (try clear c30); (try clear c33); (try clear c33b0); (try clear c33b1); (try clear c33b2); (try clear hcz10_0); (try clear hcz10_1); (try clear hcz11_0); (try clear hcz11_1); (try clear hcz23_0); (try clear hcz23_1); (try clear hcz24_0); (try clear hcz24_1); (try clear hcz29_0); (try clear hcz29_1); (try clear hcz31_0); (try clear hcz31_1); (try clear hfz10_0); (try clear hfz10_1); (try clear hfz11_0); (try clear hfz11_1); (try clear hfz23_0); (try clear hfz23_1); (try clear hfz24_0); (try clear hfz24_1); (try clear hfz29_0); (try clear hfz29_1); (try clear hfz31_0); (try clear hfz31_1)
   obtain ⟨kq, x43_18, rfl, HA, HJ18, HO_1, HO_267000, HO_267001, BK265, BK266, HB⟩ := hcut
   cases kq with
   | zero => exact absurd HA.out (by simp [dropperlaw06_KeyHolds.j0])
   | succ kj18 =>
    have H := HA.out
    clear HA
    simp only [dropperlaw06_KeyHolds.j0] at H
    by_cases c34 : x43_18 = true
    ·
     subst c34
     rw [if_pos rfl] at H
     exact absurd H (by simp)
    ·
     replace c34 := Bool.eq_false_iff.mpr c34
     subst c34
     rw [if_neg (show ¬ (false = true) by decide)] at H
     replace H := Option.bind_eq_some_iff.mp H
     obtain ⟨⟨t276, t277⟩, A350, H⟩ := H
     try dsimp only at H
     have A35 := Aside0.mk A350
     clear A350
     replace H := Option.bind_eq_some_iff.mp H
     obtain ⟨⟨t278, t279⟩, A360, H⟩ := H
     try dsimp only at H
     have A36 := Aside0.mk A360
     clear A360
     replace H := Option.bind_eq_some_iff.mp H
     obtain ⟨⟨t280, t281⟩, A370, H⟩ := H
     try dsimp only at H
     have A37 := Aside0.mk A370
     clear A370
     replace H := Option.bind_eq_some_iff.mp H
     obtain ⟨⟨t282, t283⟩, A380, H⟩ := H
     try dsimp only at H
     have A38 := Aside0.mk A380
     clear A380
     by_cases c39 : t276 = t278
     ·
      rw [if_pos c39] at H
      have c39b0 : (t276 == t278) = true := beq_iff_eq.mpr c39
      have c39b1 : (t276 != t278) = false := bne_eq_false_iff_eq.mpr c39
      clear c39
      by_cases c40 : t277 = t279
      ·
       rw [if_pos c40] at H
       have c40b0 : (t277 == t279) = true := beq_iff_eq.mpr c40
       have c40b1 : (t277 != t279) = false := bne_eq_false_iff_eq.mpr c40
       clear c40
       by_cases c41 : (t280 == t282) = true
       ·
        rw [if_pos c41] at H
        have c41b0 : (t280 == t282) = true := c41
        (try (have c41b1 : decide (t280 = t282) = true := by simpa using c41))
        (try (have c41b2 : (t280 == t282) = true := by simpa using c41))
        clear c41
        by_cases c42 : t281 = t283
        ·
         rw [if_pos c42] at H
         have c42b0 : (t281 == t283) = true := beq_iff_eq.mpr c42
         have c42b1 : (t281 != t283) = false := bne_eq_false_iff_eq.mpr c42
         clear c42
         replace H := Option.bind_eq_some_iff.mp H
         obtain ⟨t284, A430, H⟩ := H
         try dsimp only at H
         have A43 := Aside0.mk A430
         clear A430
         obtain rfl := Option.some.inj H
         have hnb44 := NB265_266.out
         have hnc44 := NB266_265.out
         obtain ⟨hcz45_0, hcz45_1⟩ := bc2 BK265.out
         obtain ⟨hfz45_0, hfz45_1⟩ := bf2 BK265.out
         obtain ⟨hcz46_0, hcz46_1⟩ := bc2 BK266.out
         obtain ⟨hfz46_0, hfz46_1⟩ := bf2 BK266.out
         go_wp2_with (first | ((with_reducible refine gate_callee (f := 22) rfl ?_); refine goesL_ (some 49) rfl rfl Try.func22 (by kernel_rfl) rfl #[.agg #[.int .i64 a0_0, .slice A0_1 l0_1.length c0_1], .slice A1 l1.length c1, .slice A2_0 l2_0.length c2_0] rfl mapz ?_; (with_reducible refine (key_Sum.calls kj18 a0_0 _ _ l0_1 _ _ l1 (fun k_ => (((P1_ k_ ∨ P2_0_ k_ ∨ P2_1_ k_) ∨ w.heap.size ≤ k_) ∧ (k_ ≠ gb265 ∧ k_ ≠ gb266))) _ _ l2_0 t276 t277 _ (cbz HR0_1) HC0_1.out ?side3 ?side4 HO_267000.out A35.out).mono ?_); (case side3 => repeat (first | exact (Kd.V_reads' HO_1.out).2.2 | (with_reducible refine Kd.C_alloc ?_ _) | (with_reducible refine Kd.C_drewN ?_ _) | (with_reducible refine Kd.C_drew ?_))); (case side4 => exact (Kd.V_reads' HO_1.out).2.1); rintro e w47 ⟨rfl, hb⟩; refine ⟨_, rfl, ?_⟩; replace HO_1 := Aside0.mk (Kd.V_below (by (with_reducible repeat (first | apply Kd.V_alloc | apply Kd.V_drewN | apply Kd.V_drew)); exact HO_1.out) hb); replace HO_267000 := Aside0.mk (Kd.V_below (by (with_reducible repeat (first | apply Kd.V_alloc | apply Kd.V_drewN | apply Kd.V_drew)); exact HO_267000.out) hb); replace HO_267001 := Aside0.mk (Kd.V_below (by (with_reducible repeat (first | apply Kd.V_alloc | apply Kd.V_drewN | apply Kd.V_drew)); exact HO_267001.out) hb); replace BK265 := Aside0.mk (blk_below (g := gb265) blkz hb); replace BK266 := Aside0.mk (blk_below (g := gb266) blkz hb); replace HB := Aside0.mk (below_step bel hb); clear hb; obtain ⟨hcz48_0, hcz48_1⟩ := bc2 BK265.out; obtain ⟨hcz49_0, hcz49_1⟩ := bc2 BK266.out) | ((with_reducible refine gate_callee (f := 31) rfl ?_); refine goesL_ (some 57) rfl rfl Try.func31 (by kernel_rfl) rfl #[.agg #[.int .i64 a0_0, .slice A0_1 l0_1.length c0_1], .slice A1 l1.length c1, .slice A2_0 l2_0.length c2_0] rfl mapz ?_; (with_reducible refine (dropperref06_Sum.calls kj18 a0_0 _ _ l0_1 _ _ l1 (fun k_ => (((P1_ k_ ∨ P2_0_ k_ ∨ P2_1_ k_) ∨ w.heap.size ≤ k_) ∧ (k_ ≠ gb265 ∧ k_ ≠ gb266))) _ _ l2_0 t278 t279 _ (cbz HR0_1) HC0_1.out ?side3 ?side4 HO_267000.out A36.out).mono ?_); (case side3 => repeat (first | exact (Kd.V_reads' HO_1.out).2.2 | (with_reducible refine Kd.C_alloc ?_ _) | (with_reducible refine Kd.C_drewN ?_ _) | (with_reducible refine Kd.C_drew ?_))); (case side4 => exact (Kd.V_reads' HO_1.out).2.1); rintro e w50 ⟨rfl, hb⟩; refine ⟨_, rfl, ?_⟩; replace HO_1 := Aside0.mk (Kd.V_below (by (with_reducible repeat (first | apply Kd.V_alloc | apply Kd.V_drewN | apply Kd.V_drew)); exact HO_1.out) hb); replace HO_267000 := Aside0.mk (Kd.V_below (by (with_reducible repeat (first | apply Kd.V_alloc | apply Kd.V_drewN | apply Kd.V_drew)); exact HO_267000.out) hb); replace HO_267001 := Aside0.mk (Kd.V_below (by (with_reducible repeat (first | apply Kd.V_alloc | apply Kd.V_drewN | apply Kd.V_drew)); exact HO_267001.out) hb); replace BK265 := Aside0.mk (blk_below (g := gb265) blkz hb); replace BK266 := Aside0.mk (blk_below (g := gb266) blkz hb); replace HB := Aside0.mk (below_step bel hb); clear hb; obtain ⟨hcz51_0, hcz51_1⟩ := bc2 BK265.out; obtain ⟨hcz52_0, hcz52_1⟩ := bc2 BK266.out) | ((with_reducible refine gate_callee (f := 23) rfl ?_); refine goesL_ (some 67) rfl rfl Try.func23 (by kernel_rfl) rfl #[.agg #[.int .i64 a0_0, .slice A0_1 l0_1.length c0_1], .slice A1 l1.length c1, .slice A2_0 l2_0.length c2_0, .slice A2_1 l2_1.length c2_1] rfl mapz ?_; (with_reducible refine (key_Proves.calls kj18 a0_0 _ _ l0_1 _ _ l1 (fun k_ => (((P1_ k_ ∨ P2_0_ k_ ∨ P2_1_ k_) ∨ w.heap.size ≤ k_) ∧ (k_ ≠ gb265 ∧ k_ ≠ gb266))) _ _ l2_0 (fun k_ => (((P1_ k_ ∨ P2_0_ k_ ∨ P2_1_ k_) ∨ w.heap.size ≤ k_) ∧ (k_ ≠ gb265 ∧ k_ ≠ gb266))) _ _ l2_1 t280 t281 _ (cbz HR0_1) HC0_1.out ?side3 ?side4 HO_267000.out HO_267001.out A37.out).mono ?_); (case side3 => repeat (first | exact (Kd.V_reads' HO_1.out).2.2 | (with_reducible refine Kd.C_alloc ?_ _) | (with_reducible refine Kd.C_drewN ?_ _) | (with_reducible refine Kd.C_drew ?_))); (case side4 => exact (Kd.V_reads' HO_1.out).2.1); rintro e w53 ⟨rfl, hb⟩; refine ⟨_, rfl, ?_⟩; replace HO_1 := Aside0.mk (Kd.V_below (by (with_reducible repeat (first | apply Kd.V_alloc | apply Kd.V_drewN | apply Kd.V_drew)); exact HO_1.out) hb); replace HO_267000 := Aside0.mk (Kd.V_below (by (with_reducible repeat (first | apply Kd.V_alloc | apply Kd.V_drewN | apply Kd.V_drew)); exact HO_267000.out) hb); replace HO_267001 := Aside0.mk (Kd.V_below (by (with_reducible repeat (first | apply Kd.V_alloc | apply Kd.V_drewN | apply Kd.V_drew)); exact HO_267001.out) hb); replace BK265 := Aside0.mk (blk_below (g := gb265) blkz hb); replace BK266 := Aside0.mk (blk_below (g := gb266) blkz hb); replace HB := Aside0.mk (below_step bel hb); clear hb; obtain ⟨hcz54_0, hcz54_1⟩ := bc2 BK265.out; obtain ⟨hcz55_0, hcz55_1⟩ := bc2 BK266.out) | ((with_reducible refine gate_callee (f := 32) rfl ?_); refine goesL_ (some 77) rfl rfl Try.func32 (by kernel_rfl) rfl #[.agg #[.int .i64 a0_0, .slice A0_1 l0_1.length c0_1], .slice A1 l1.length c1, .slice A2_0 l2_0.length c2_0, .slice A2_1 l2_1.length c2_1] rfl mapz ?_; (with_reducible refine (dropperref06_Proves.calls kj18 a0_0 _ _ l0_1 _ _ l1 (fun k_ => (((P1_ k_ ∨ P2_0_ k_ ∨ P2_1_ k_) ∨ w.heap.size ≤ k_) ∧ (k_ ≠ gb265 ∧ k_ ≠ gb266))) _ _ l2_0 (fun k_ => (((P1_ k_ ∨ P2_0_ k_ ∨ P2_1_ k_) ∨ w.heap.size ≤ k_) ∧ (k_ ≠ gb265 ∧ k_ ≠ gb266))) _ _ l2_1 t282 t283 _ (cbz HR0_1) HC0_1.out ?side3 ?side4 HO_267000.out HO_267001.out A38.out).mono ?_); (case side3 => repeat (first | exact (Kd.V_reads' HO_1.out).2.2 | (with_reducible refine Kd.C_alloc ?_ _) | (with_reducible refine Kd.C_drewN ?_ _) | (with_reducible refine Kd.C_drew ?_))); (case side4 => exact (Kd.V_reads' HO_1.out).2.1); rintro e w56 ⟨rfl, hb⟩; refine ⟨_, rfl, ?_⟩; replace HO_1 := Aside0.mk (Kd.V_below (by (with_reducible repeat (first | apply Kd.V_alloc | apply Kd.V_drewN | apply Kd.V_drew)); exact HO_1.out) hb); replace HO_267000 := Aside0.mk (Kd.V_below (by (with_reducible repeat (first | apply Kd.V_alloc | apply Kd.V_drewN | apply Kd.V_drew)); exact HO_267000.out) hb); replace HO_267001 := Aside0.mk (Kd.V_below (by (with_reducible repeat (first | apply Kd.V_alloc | apply Kd.V_drewN | apply Kd.V_drew)); exact HO_267001.out) hb); replace BK265 := Aside0.mk (blk_below (g := gb265) blkz hb); replace BK266 := Aside0.mk (blk_below (g := gb266) blkz hb); replace HB := Aside0.mk (below_step bel hb); clear hb) | (go_at_call 15; (with_reducible refine (dropperlaw06_Awake.calls kj18  t284 _ A43.out).mono ?_); rintro e w57 ⟨rfl, hb⟩; replace HO_1 := Aside0.mk (Kd.V_below (by (with_reducible repeat (first | apply Kd.V_alloc | apply Kd.V_drewN | apply Kd.V_drew)); exact HO_1.out) hb); replace HO_267000 := Aside0.mk (Kd.V_below (by (with_reducible repeat (first | apply Kd.V_alloc | apply Kd.V_drewN | apply Kd.V_drew)); exact HO_267000.out) hb); replace HO_267001 := Aside0.mk (Kd.V_below (by (with_reducible repeat (first | apply Kd.V_alloc | apply Kd.V_drewN | apply Kd.V_drew)); exact HO_267001.out) hb); replace BK265 := Aside0.mk (blk_below (g := gb265) blkz hb); replace BK266 := Aside0.mk (blk_below (g := gb266) blkz hb); replace HB := Aside0.mk (below_step bel hb); clear hb))
         go_ret
         exact ⟨ezz, bel⟩
        ·
         rw [if_neg c42] at H
         exact absurd H (by simp)
       ·
        rw [if_neg c41] at H
        exact absurd H (by simp)
      ·
       rw [if_neg c40] at H
       exact absurd H (by simp)
     ·
      rw [if_neg c39] at H
      exact absurd H (by simp)

end Go.Proofs.Ytgdfakmlpdeabaa.XKey
-- Written by wip/xprint.py of this repo, over the kit's print.py: out of the translation; the oracles in it are by hand. Not trusted: Lean checks it.
namespace Go.Proofs.Ytgdfakmlpdeabaa.XKey
open Go.RowKit Go.Proofs.Ytgdfakmlpdeabaa.XKey Go.Proofs.YtgdfakmlpdeabaaW.PrintWords Go.Proofs.YtgdfakmlpdeabaaW.PrintLast Go.Proofs.YtgdfakmlpdeabaaW.PrintMore
def dropperlaw06_KeyHolds.Pure : Prop := ∀ (a0_0 : Int) (l0_1 : List (S64)) (l1 : List Int) (l2_0 : List Int) (l2_1 : List Int), ((Lit.int .i64 a0_0).wf = true) → (l0_1.length ≤ 9223372036854775807 ∧ ∀ y0 ∈ l0_1, (y0.f0.length ≤ 9223372036854775807 ∧ ∀ y1 ∈ y0.f0, (Lit.int .i64 y1).wf = true) ∧ (y0.f1.length ≤ 9223372036854775807 ∧ ∀ y1 ∈ y0.f1, (Lit.int .i64 y1).wf = true)) → (l1.length ≤ 9223372036854775807 ∧ ∀ y0 ∈ l1, (Lit.int .i64 y0).wf = true) → (l2_0.length ≤ 9223372036854775807 ∧ ∀ y0 ∈ l2_0, (Lit.int .i64 y0).wf = true) → (l2_1.length ≤ 9223372036854775807 ∧ ∀ y0 ∈ l2_1, (Lit.int .i64 y0).wf = true) → ∃ k, dropperlaw06_KeyHolds.f k a0_0 l0_1 l1 l2_0 l2_1 = some true
end Go.Proofs.Ytgdfakmlpdeabaa.XKey

/- Weights that hold, their sums, and what they prove: program and reference answer the same. -/
namespace Go.Proofs.Ytgdfakmlpdeabaa.Pure
set_option linter.unusedVariables false
set_option linter.unusedSimpArgs false
open Go.RowKit Go.Proofs.Ytgdfakmlpdeabaa.XKey Go.Proofs.YtgdfakmlpdeabaaW.PrintWords Go.Proofs.YtgdfakmlpdeabaaW.PrintLast Go.Proofs.YtgdfakmlpdeabaaW.PrintMore
open Go.Proofs.Ytgdfakmlpdeabaa.Keys
theorem KeyHolds : dropperlaw06_KeyHolds.Pure := by
 intro n ts w l m _ ht hw hl hm
 have hf : Fits ts := ⟨ht.1, fun t h => ⟨(ht.2 t h).1.1, (ht.2 t h).2.1⟩⟩
 refine Ev.rounds (r := true) (g := fun k => dropperlaw06_KeyHolds.f k n ts w l m) ?_
 unfold dropperlaw06_KeyHolds.f
 obtain ⟨b, hb⟩ := large_ev n ts [w, l, m] hf.1 (by simp)
 refine ev_bind1 hb ?_
 cases b with
 | true => exact ev_pos rfl (ev_bind1 awake_ev (Ev.now _))
 | false =>
  refine ev_neg (by decide) (ev_bind1 (Holds_ev n ts w) (ev_bind1 (rHolds_ev n ts w hf hw.1) ?_))
  refine ev_neg (by simp) ?_
  rw [show ((HoldsS n ts w).2 != (HoldsS n ts w).2) = false by simp]
  refine Ev.step (fun k => by rw [dropperlaw06_KeyHolds.j0]) ?_
  refine ev_neg (by decide) ?_
  refine ev_bind1 (Sum_ev n ts w l) (ev_bind1 (rSum_ev n ts w l hf hw.1 hl.1) (ev_bind1 (Proves_ev n ts w l m) (ev_bind1 (rProves_ev n ts w l m hf hw.1 hl.1 hm.1) ?_)))
  exact ev_pos rfl (ev_pos rfl (ev_pos (by simp) (ev_pos rfl (ev_bind1 awake_ev (Ev.now _)))))
end Go.Proofs.Ytgdfakmlpdeabaa.Pure

-- Written by wip/xprint.py of this repo, over the kit's print.py: out of the translation; the oracles in it are by hand. Not trusted: Lean checks it.
namespace Go.Proofs.Ytgdfakmlpdeabaa.keyHolds
open Go.ChangeShapes Go.WideShapes Go.ChangeAt Go.RowKit Go.Proofs.Ytgdfakmlpdeabaa.Open Go.Proofs.Ytgdfakmlpdeabaa.XKey Go.Proofs.YtgdfakmlpdeabaaW.PrintWords Go.Proofs.YtgdfakmlpdeabaaW.PrintLast Go.Proofs.YtgdfakmlpdeabaaW.PrintMore
open Go.ChangeMaps (open_string shut_string)
set_option linter.unusedVariables false
set_option linter.unusedSimpArgs false
theorem own : ownKnob Try.prog.godebug = none := by kernel_rfl
theorem laidOut : laidOutB Try.prog = true := by kernel_rfl
set_option maxHeartbeats 8000000 in
set_option maxRecDepth 100000 in
theorem lifted (os : Os) (started : os.Started) (H : Type) (enc : TypeId × Value → H) :
  ReturnsInHanded {} Try.checked os 4 .any (Rows.keyHoldsSpec.pre6 enc Try.prog Try.f4 Rows.keyHoldsRow.domain false) (Rows.keyHoldsSpec.post enc Try.prog Try.f4 false true false false) := by
 refine returnsInHanded_of_change_sized (C := Try.checked) own started (by kernel_rfl) Try.func4
  (ChangeSpec.witness6 (enc := enc) (C := Try.checked) false ⟨#[], #[.agg #[.int .i64 0, .slice none 0 0], .slice none 0 0, .agg #[.slice none 0 0, .slice none 0 0]], []⟩ 8 (by kernel_rfl) (by kernel_rfl) (by kernel_rfl) (by kernel_rfl)) ?_
 intro W base args ds gs before hval0 hW hcnd hsz0 _
 have hval : ∀ (j : Nat) t v, Try.f4.params[j]? = some t → args[j]? = some v → Value.okWide Try.prog W .any base t v := hval0
 have hW' := hW
 obtain ⟨p, q, hA0, hV, rfl, hfz, hnd⟩ := hW
 have hA : DataW.TrodAll enc Try.prog W 0 (fun _ => true) true Try.f4.params.toList args.toList ds p := hA0
 rw [Try.params4] at hA hval
 obtain ⟨v0, vs0, d0, ds0, p0, q0, hargs, rfl, rfl, h0, r0⟩ := trodAll_cons hA
 obtain ⟨v1, vs1, d1, ds1, p1, q1, rfl, rfl, rfl, h1, r1⟩ := trodAll_cons r0
 obtain ⟨v2, vs2, d2, ds2, p2, q2, rfl, rfl, rfl, h2, r2⟩ := trodAll_cons r1
 obtain ⟨rfl, rfl, rfl⟩ := trodAll_nil r2
 obtain rfl : args = #[v0, v1, v2] := by cases args; simp_all
 obtain ⟨rfl, rfl⟩ := trodVars_none hV
 obtain ⟨cs0, rfl, hz0⟩ := okWide_struct Try.underlying24 (hval 0 24 v0 rfl rfl)
 have k0 := h0
 have lt0 : ∀ x ∈ p0, x.block < W.heap.size := by obtain ⟨m, hm⟩ := k0; exact DataW.trod_lt m _ _ _ hm
 obtain ⟨fuel0, hf0⟩ := h0
 obtain ⟨⟨u0_0, u0_1⟩, hK0, hG0⟩ := (opens_struct Try.underlying24 (by kernel_rfl) (opensF_cons rfl (by kernel_rfl) (opens_int Try.underlying3) (opensF_one rfl (by kernel_rfl) (opens_slice Try.underlying22 (opens_iso (f := fun x : S64 => (x.f0, x.f1)) (fun p => ⟨p.1, p.2⟩) (fun _ => rfl) (opens_struct Try.underlying64 (by kernel_rfl) (opensF_cons rfl (by kernel_rfl) (opens_slice Try.underlying25 (opens_int Try.underlying3) (by kernel_rfl)) (opensF_one rfl (by kernel_rfl) (opens_slice Try.underlying25 (opens_int Try.underlying3) (by kernel_rfl)))))) (by kernel_rfl))))) H enc W fuel0 _ _ hf0
 obtain ⟨c0_0, r0_0, e0_0, hk0_0, hk0_1⟩ := hK0
 obtain ⟨g0_0, g0_1⟩ := hG0
 have hq0_0 := hk0_0
 obtain ⟨A0_1, q0_1, hq0_1, hc0_1, hr0_1⟩ := hk0_1
 have hq0_0' : c0_0 = _ := hq0_0
 obtain rfl : cs0 = #[.int .i64 u0_0, .slice A0_1 u0_1.length q0_1] := by
  have h_ := agg_of (l := [.int .i64 u0_0, .slice A0_1 u0_1.length q0_1]) (cs := cs0) (by rw [e0_0, hq0_0', hq0_1]; rfl)
  exact h_
 obtain ⟨b1, len1, cap1, rfl⟩ := okWide_slice Try.underlying25 (hval 1 25 v1 rfl rfl)
 have k1 := h1
 have lt1 : ∀ x ∈ p1, x.block < W.heap.size := by obtain ⟨m, hm⟩ := k1; exact DataW.trod_lt m _ _ _ hm
 obtain ⟨fuel1, hf1⟩ := h1
 obtain ⟨l1, ⟨A1, c1, hcs1, hc1, hr1⟩, hg1⟩ := (opens_slice Try.underlying25 (opens_int Try.underlying3) (by kernel_rfl)) H enc W fuel1 _ _ hf1
 simp [Value.cells] at hcs1
 obtain ⟨rfl, rfl, rfl⟩ := hcs1
 obtain ⟨cs2, rfl, hz2⟩ := okWide_struct Try.underlying47 (hval 2 47 v2 rfl rfl)
 have k2 := h2
 have lt2 : ∀ x ∈ p2, x.block < W.heap.size := by obtain ⟨m, hm⟩ := k2; exact DataW.trod_lt m _ _ _ hm
 obtain ⟨fuel2, hf2⟩ := h2
 obtain ⟨⟨u2_0, u2_1⟩, hK2, hG2⟩ := (opens_struct Try.underlying47 (by kernel_rfl) (opensF_cons rfl (by kernel_rfl) (opens_slice Try.underlying25 (opens_int Try.underlying3) (by kernel_rfl)) (opensF_one rfl (by kernel_rfl) (opens_slice Try.underlying25 (opens_int Try.underlying3) (by kernel_rfl))))) H enc W fuel2 _ _ hf2
 obtain ⟨c2_0, r2_0, e2_0, hk2_0, hk2_1⟩ := hK2
 obtain ⟨g2_0, g2_1⟩ := hG2
 obtain ⟨A2_0, q2_0, hq2_0, hc2_0, hr2_0⟩ := hk2_0
 obtain ⟨A2_1, q2_1, hq2_1, hc2_1, hr2_1⟩ := hk2_1
 have hq2_0' : c2_0 = _ := hq2_0
 obtain rfl : cs2 = #[.slice A2_0 u2_0.length q2_0, .slice A2_1 u2_1.length q2_1] := by
  have h_ := agg_of (l := [.slice A2_0 u2_0.length q2_0, .slice A2_1 u2_1.length q2_1]) (cs := cs2) (by rw [e2_0, hq2_0', hq2_1]; rfl)
  exact h_
 clear hA0 hval0 hsz0
 obtain ⟨k, h⟩ := Pure.KeyHolds u0_0 u0_1 l1 u2_0 u2_1 g0_0 g0_1 hg1 g2_0 g2_1
 refine (dropperlaw06_KeyHolds.calls k u0_0 _ _ u0_1 (fun k_ => k_ < W.heap.size) _ _ l1 (fun k_ => k_ < W.heap.size) _ _ u2_0 (fun k_ => k_ < W.heap.size) _ _ u2_1 true W hr0_1 hc0_1 (Kd.V_mk hc1 (Kd.C_F (Kd.heap_int .i64) hr1)) (Kd.V_mk hc2_0 (Kd.C_F (Kd.heap_int .i64) hr2_0)) (Kd.V_mk hc2_1 (Kd.C_F (Kd.heap_int .i64) hr2_1)) h).mono fun e W' ⟨he, bel0⟩ => ?_
 have bel : Below W.heap.size W W' := bel0
 subst he
 exact ⟨_, rfl, _, _, _, [], _, [], hW', trodAll_mk1 (shut_bool Try.underlying4 _), (trodAll_cons_mk (Below.trod laidOut (by kernel_rfl) (of_decide_eq_true (by kernel_rfl)) k0 bel lt0) (trodAll_cons_mk (Below.trod laidOut (by kernel_rfl) (of_decide_eq_true (by kernel_rfl)) k1 bel lt1) (trodAll_cons_mk (Below.trod laidOut (by kernel_rfl) (of_decide_eq_true (by kernel_rfl)) k2 bel lt2) trodAll_mk0))), rfl, bel.frame _, fun h => by cases h⟩
theorem over : Rows.keyHoldsRow.holds Try.pinned (OpenSpec.ofChange Rows.keyHoldsSpec) :=
 OpenClaim.holds_of_wide 4 Try.f4 rfl rfl rfl rfl rfl rfl rfl ⟨rfl, rfl, rfl, rfl, rfl⟩ rfl rfl rfl rfl rfl (by kernel_rfl) Try.func4 (by kernel_rfl)
  (of_decide_eq_true (by kernel_rfl)) (by unfold Func.isWrapper; first | (rw [if_pos (by decide +kernel)]; kernel_rfl) | (rw [if_neg (by decide +kernel)]; exact ⟨rfl, rfl⟩))
  (fun os started H enc _ => lifted os started H enc)
theorem proved : Rows.KeyHoldsSaid := over
#print axioms proved
end Go.Proofs.Ytgdfakmlpdeabaa.keyHolds
namespace Go.Proofs.Ytgdfakmlpdeabaa
theorem keyHolds_holds : Rows.KeyHoldsSaid := keyHolds.proved
end Go.Proofs.Ytgdfakmlpdeabaa
