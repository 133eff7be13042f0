-- Written by wip/pack.py of this repo: texts of this claim, put together.
import Derived.Test.YtgdfakmlpdeabaaKKeyReachese
namespace Go.Proofs.Ytgdfakmlpdeabaa.XKey
open Go.RowKit Go.Proofs.YtgdfakmlpdeabaaW.PrintWords Go.Proofs.YtgdfakmlpdeabaaW.PrintLast Go.Proofs.YtgdfakmlpdeabaaW.PrintMore
attribute [local go_sem] max2_int min2_int max_two min_two max_three min_three max_four min_four   -- for this text's walks alone
set_option linter.unusedVariables false
set_option linter.unusedSimpArgs false
/-! ### dropperref06_Stuck: function 35 -/
def dropperref06_Stuck.l0 : Nat → List (List Int) → List (List Int) → Int → Int → List (S64) → Option ((List (List Int)) × Int)
 | 0, _, _, _, _, _ => none
 | k + 1, x6, x8, x9, x315000, x315001 => if x9 < (x6.length : Int) then (if 0 ≤ x9 then ((dropperref06_Can.f k x315000 x315001 (rd_L1 x6 x9)).bind fun bt320 => (if (bt320.1.length : Int) = 0 then (if x8.length < 5864062014805 then (dropperref06_Stuck.l0 k x6 (x8 ++ [rd_L1 x6 x9]) (wrap64 (x9 + 1)) x315000 x315001) else (none)) else (dropperref06_Stuck.l0 k x6 x8 (wrap64 (x9 + 1)) x315000 x315001))) else (none)) else (some (x8, 0))
def dropperref06_Stuck.f (k : Nat) (a0_0 : Int) (l0_1 : List (S64)) (l1 : List Int) : Option ((List (List Int)) × Int) := (dropperref06_Reach.f k a0_0 l0_1 l1).bind fun bt315 => (if bt315.2 = 0 then (dropperref06_Stuck.l0 k bt315.1 ([] : List (List Int)) 0 a0_0 l0_1) else (some (([] : List (List Int)), bt315.2)))
def dropperref06_Stuck.T8 : Bool × List (List Nat × List Nat) := (true, [([], []), ([], []), ([], []), ([1, 2], [1, 2]), ([3], [3]), ([0, 4], [0, 4]), ([5], [5]), ([6], [6]), ([6], [6]), ([7, 5, 0, 1, 2, 3, 4, 5, 6, 7], [7]), ([8, 9, 0, 1, 2, 3, 4, 5, 6, 7, 8, 9], [8])])
def dropperref06_Stuck.B8 : List Nat := [0, 0, 0, 6, 14, 31, 63, 127, 127, 255, 1023]
theorem dropperref06_Stuck.tab8 : rtab .any (opsOf Try.f35 8) = dropperref06_Stuck.T8 := by kernel_rfl
theorem dropperref06_Stuck.bits8 : waitsOk dropperref06_Stuck.T8.2 dropperref06_Stuck.B8 = true := by kernel_rfl
set_option maxHeartbeats 8000000 in
set_option maxRecDepth 100000 in
theorem dropperref06_Stuck.calls (k : Nat) (a0_0 : Int) (A0_1 : Option Addr) (c0_1 : Nat) (l0_1 : List (S64)) (P1_ : Nat → Prop) (A1 : Option Addr) (c1 : Nat) (l1 : List Int) (r1 : List (List Int)) (r2 : Int) (w : World) (hr0_1 : Kd.C k64 w A0_1 l0_1.length l0_1) (hc0_1 : l0_1.length ≤ c0_1) (hs1 : Kd.V (Kd.int .i64) 3 w w.heap.size (fun k_ => P1_ k_) (.slice A1 l1.length c1) l1) (h : dropperref06_Stuck.f k a0_0 l0_1 l1 = some (r1, r2)) :
  Calls Try.prog 35 #[.agg #[.int .i64 a0_0, .slice A0_1 l0_1.length c0_1], .slice A1 l1.length c1] w fun e w' => ∃ v0_ : Value, e = .returned (.tuple #[v0_, .int .i64 r2]) ∧ Kd.N (Kd.slice 3 (Kd.int .i64)) 25 w' w.heap.size (fun k_ => (P1_ k_ ∨ w.heap.size ≤ k_)) v0_ r1 ∧ Below w.heap.size w w' := by
 have hu24 := Try.underlying24
 have HR0_1 := Aside0.mk hr0_1
 have HC0_1 := Aside0.mk hc0_1
 clear hr0_1 hc0_1
 have HO1 := Aside0.mk (show Kd.V (Kd.int .i64) 3 w w.heap.size (fun k_ => (P1_ k_ ∨ w.heap.size ≤ k_)) (.slice A1 l1.length c1) l1 from Kd.V_mono hs1 (fun k_ hk => .inl hk))
 have HB := Aside0.mk (Below.refl w.heap.size w)
 have H : ((dropperref06_Reach.f k a0_0 l0_1 l1).bind fun bt315 => (if bt315.2 = 0 then (dropperref06_Stuck.l0 k bt315.1 ([] : List (List Int)) 0 a0_0 l0_1) else (some (([] : List (List Int)), bt315.2)))) = some (r1, r2) := h
 clear h
 replace H := Option.bind_eq_some_iff.mp H
 obtain ⟨⟨t315, t318⟩, A30, H⟩ := H
 try dsimp only at H
 have A3 := Aside0.mk A30
 clear A30
 by_cases c4 : t318 = 0
 ·
  rw [if_pos c4] at H
  have c4b0 : (t318 == 0) = true := beq_iff_eq.mpr c4
  have c4b1 : (t318 != 0) = false := bne_eq_false_iff_eq.mpr c4
  clear c4
  have H' := Aside0.mk H
  clear H
  go_enter Try.func35, Try.ntmps35
  go_wp2_with (first | ((with_reducible refine gate_dst (N := 2) rfl ?_); refine box_event ?hg (N := 2) ?hd (cs := #[.int .i64 a0_0, .slice A0_1 l0_1.length c0_1]) (t := 24) ?hr ?_; (case hd => rfl); (case hg => rfl); (case hr => first | (go_simp; done) | (go_simp; rfl)); intro gb314 hg w5 hbox hb; have BK314 := Aside0.mk (hbox); have GW314 := bsz (w := w) hg; have GE314 := GW314; replace HO1 := Aside0.mk (Kd.V_below (Kd.V_elderB (by (with_reducible repeat (first | apply Kd.V_alloc | apply Kd.V_drewN | apply Kd.V_drew)); exact HO1.out) gb314 (Nat.le_of_eq hg.symm)) hb); replace HB := Aside0.mk (below_step bel hb); clear hb hbox hg; obtain ⟨hcz6_0, hcz6_1⟩ := bc2 BK314.out) | ((with_reducible refine gate_callee (f := 33) rfl ?_); refine goesL_ (some 15) rfl rfl Try.func33 (by kernel_rfl) rfl #[.agg #[.int .i64 a0_0, .slice A0_1 l0_1.length c0_1], .slice A1 l1.length c1] rfl mapz ?_; (with_reducible refine (dropperref06_Reach.calls k a0_0 _ _ l0_1 (fun k_ => ((P1_ k_ ∨ w.heap.size ≤ k_) ∧ k_ ≠ gb314)) _ _ l1 t315 t318 _ (cbz HR0_1) HC0_1.out HO1.out A3.out).mono ?_); rintro e w7 ⟨v316, rfl, ho0, hb⟩; refine ⟨_, rfl, ?_⟩; have HO317 := Aside0.mk (Kd.N_lower (Kd.N_mono (ok' := fun k_ => (P1_ k_ ∨ w.heap.size ≤ k_) ∧ k_ ≠ gb314) ho0 (fun k_ hk_ => ⟨Or.elim hk_ (fun hs_ => hs_.1) (fun hn_ => (.inr (Nat.le_trans (below_size bel) hn_))), Or.elim hk_ (fun hs_ => hs_.2) (fun hn_ => (Kd.freshB (g := gb314) (o := .cells #[.int .i64 a0_0, .slice A0_1 l0_1.length c0_1] 24 (0, 0)) blkz k_ hn_))⟩)) (below_size bel)); replace HO1 := Aside0.mk (Kd.V_elder' (by (with_reducible repeat (first | apply Kd.V_alloc | apply Kd.V_drewN | apply Kd.V_drew)); exact HO1.out) (Kd.N_base ho0) hb); replace BK314 := Aside0.mk (blk_below (g := gb314) blkz hb); replace HB := Aside0.mk (below_step bel hb); (try clear hb); (try clear hb2); (try clear hk); (try clear hi); (try clear ho0)))
  go_loopg [8, 9] k (fun kq v8 v9 w' => ∃ (x8_1 : List (List Int)) (x9_1 : Int), v9 = .int .i64 x9_1 ∧ Aside0 (dropperref06_Stuck.l0 kq t315 x8_1 x9_1 a0_0 l0_1 = some (r1, r2)) ∧ Aside0 (kq ≤ k) ∧ Aside0 (Kd.N (Kd.slice 3 (Kd.int .i64)) 25 w' w.heap.size (fun k_ => (P1_ k_ ∨ w.heap.size ≤ k_) ∧ some k_ ≠ (v8 : Value).ownBlock ∧ k_ ≠ gb314) v316 t315) ∧ Aside0 (Kd.N (Kd.slice 3 (Kd.int .i64)) 25 w' w.heap.size (fun k_ => (P1_ k_ ∨ w.heap.size ≤ k_) ∧ some k_ ≠ (v316 : Value).ownBlock ∧ k_ ≠ gb314) v8 x8_1) ∧ Aside0 (w'.heap[gb314]? = some (.cells #[.int .i64 a0_0, (.slice A0_1 l0_1.length c0_1)] 24 (0, 0))) ∧ Aside0 (Below w.heap.size w w'))
  case atStart => exact ⟨(([] : List (List Int))), (0), rsz, H', ⟨Nat.le_refl _⟩, ⟨by (with_reducible repeat (first | apply Kd.N_alloc | apply Kd.N_drewN | apply Kd.N_drew)); exact Kd.N_mono HO317.out (fun _ hk => ⟨hk.1, ⟨(by simp [Value.ownBlock]), hk.2⟩⟩)⟩, ⟨by first | exact Kd.S_nil _ _ _ _ _ | exact Kd.N_nil _ _ _ _ _ | exact Kd.V_nil _ _ _ _ _ | exact Kd.Q_nil _ _ _ _ _ | exact Kd.R_nil _ _ _ _ _⟩, ⟨blkz⟩, ⟨bel⟩⟩
  case round =>
   clear H'
   (try clear c1); (try clear p2); (try clear c3); (try clear c4); (try clear c4b0); (try clear c4b1); (try clear hcz6_0); (try clear hcz6_1); (try clear hfz6_0); (try clear hfz6_1)
   obtain ⟨x8_1, x9_1, rfl, HA, HK1, HO_6, HO_8, BK314, HB⟩ := hrel
   cases gk with
   | zero => exact absurd HA.out (by simp [dropperref06_Stuck.l0])
   | succ k1 =>
    have H := HA.out
    clear HA
    simp only [dropperref06_Stuck.l0] at H
    by_cases c8 : x9_1 < (t315.length : Int)
    ·
     rw [if_pos c8] at H
     have c8b0 : decide (x9_1 < (t315.length : Int)) = true := decide_eq_true c8
     clear c8
     by_cases c9 : 0 ≤ x9_1
     ·
      rw [if_pos c9] at H
      have c9b0 : decide (0 ≤ x9_1) = true := decide_eq_true c9
      clear c9
      replace H := Option.bind_eq_some_iff.mp H
      obtain ⟨⟨t320, t323⟩, A100, H⟩ := H
      try dsimp only at H
      have A10 := Aside0.mk A100
      clear A100
      by_cases c11 : (t320.length : Int) = 0
      ·
       rw [if_pos c11] at H
       have c11b0 : ((t320.length : Int) == 0) = true := beq_iff_eq.mpr c11
       have c11b1 : ((t320.length : Int) != 0) = false := bne_eq_false_iff_eq.mpr c11
       clear c11
       by_cases c12 : x8_1.length < 5864062014805
       ·
        rw [if_pos c12] at H
        have LMc12 := Aside0.mk c12
        clear c12
        obtain ⟨y325, hy325⟩ : ∃ y_ : List (List Int), y_ = (x8_1 ++ [rd_L1 t315 x9_1]) := ⟨_, rfl⟩
        replace H : (dropperref06_Stuck.l0 k1 t315 y325 (wrap64 (x9_1 + 1)) a0_0 l0_1) = some (r1, r2) := by first | (rw [hy325]; with_reducible exact H) | (have H2_ := (Option.bind_some _ _).symm.trans H; rw [hy325]; with_reducible exact H2_) | (have H2_ := (Option.bind_some _ _).symm.trans H; with_reducible exact H2_) | with_reducible exact H | (rw [hy325]; exact H) | exact H
        have Ny325 := Aside0.mk hy325
        clear hy325
        have H' := Aside0.mk H
        clear H
        obtain ⟨Ao13, co13, eo13⟩ := Kd.N_slice HO_6.out
        subst eo13
        try go_wp2
        have n0_ := Aside0.mk (Kd.N_drew HO_6.out)
        have n1_ := Aside0.mk (Kd.N_drew HO_8.out)
        have n2_ := Aside0.mk (blk_drew BK314.out)
        have n3_ := Aside0.mk (below_drew1 HB.out)
        clear HO_6
        clear HO_8
        clear BK314
        clear HB
        have HO_6 := n0_
        have HO_8 := n1_
        have BK314 := n2_
        have HB := n3_
        clear n0_ n1_ n2_ n3_
        have p319 : 0 ≤ (x9_1 : Int) := of_decide_eq_true asz
        have q319 : x9_1 < (t315.length : Int) := of_decide_eq_true asz
        obtain ⟨ad319, A319_0, c319_0, e319, hx319_0, hl319_0, hi319_0⟩ := at_L1 (Kd.N_reads' HO_6.out).2.2 x9_1 p319 q319
        cases e319
        obtain ⟨ce319, hce319, hMe319, hcc319⟩ := Kd.N_get HO_6.out [] x9_1 p319 (by first | exact q319 | exact of_decide_eq_true asz | (have e_ := (Kd.N_reads' HO_6.out).1; omega))
        obtain ⟨ua319_0, uc319_0, rfl, ul319_0, ge319_0⟩ := Kd.FK_slice_open hMe319
        have hv319_0 := hcc319 0 _ rfl
        rw [Nat.add_zero, show ((Kd.slice 3 (Kd.int .i64))).sz = 1 from rfl, Nat.mul_one] at hv319_0
        replace hv319_0 := Option.some.inj (hv319_0.symm.trans hx319_0)
        injection hv319_0 with hva_ hvn_ hvc_
        rw [hva_] at ge319_0
        rw [hvc_] at ul319_0
        have HL319_0 := Aside0.mk (show Kd.V (Kd.int .i64) 3 _ w.heap.size _ _ (rd_L1 t315 x9_1) from Kd.V_mk ul319_0 ge319_0)
        clear hva_ hvn_ hvc_ ge319_0 ul319_0
        clear hcc319 hce319
        have HR319_0 := Aside0.mk hi319_0
        have HC319_0 := Aside0.mk hl319_0
        clear hi319_0 hl319_0
        replace p319 := eq_true p319
        replace q319 := eq_true q319
        refine start_ (n := 11) (S := fun w' => w'.cell? ⟨gb314, 0, none⟩ = some (.int .i64 a0_0) ∧ w'.cell? ⟨gb314, 1, none⟩ = some (.slice A0_1 l0_1.length c0_1) ∧ w'.cell? (ad319.add (x9_1).toNat) = some (.slice A319_0 (rd_L1 t315 x9_1).length c319_0)) (ds := []) #[false, false, false, false, false, false, false, false, false, false, false] (by kernel_rfl) rfl rfl ⟨(blk_cell BK314.out 0).trans rfl, (blk_cell BK314.out 1).trans rfl, hx319_0⟩ (fun hHeld => ?_); refine with_tabW dropperref06_Stuck.tab8 dropperref06_Stuck.bits8 (fun HT_ HW_ => ?_)
        generalize wr.drew = w14 at HO_6 HO_8 BK314 HB HL319_0 HR319_0 hx319_0 hHeld ⊢
        refine pst (i := 1) (N := some 29) (bz 11 2) (any_of HT_.out (by kernel_rfl)) ?_
        refine pst (i := 2) (N := some 30) (bz 11 6) (any_of HT_.out (by kernel_rfl)) ?_
        refine pst (i := 3) (N := some 31) (bz 11 14) (any_of HT_.out (by kernel_rfl)) ?_
        refine tst3 (i := 0) (N := some 28) (bz 11 15) (take_ofW HT_.out HW_.out (by kernel_rfl)) hHeld ?_
        refine tst3 (i := 4) (N := some 32) (bz 11 31) (take_ofW HT_.out HW_.out (by kernel_rfl)) hHeld ?_
        refine one_ (i := 5) (N := some 33) #[true, true, true, true, true, true, false, false, false, false, false] rfl rfl (one_of HT_.out (by kernel_rfl)) (by decide) (fun K hK => ?_)
        refine goes_ Try.func40 (by kernel_rfl) rfl #[.agg #[.int .i64 a0_0, .slice A0_1 l0_1.length c0_1], .slice A319_0 (rd_L1 t315 x9_1).length c319_0] (by rfl) rfl rfl mapz ?_
        with_reducible refine (dropperref06_Can.calls k1 a0_0 _ _ l0_1 (fun k_ => (((P1_ k_ ∨ w.heap.size ≤ k_) ∧ (some k_ ≠ (u8 : Value).ownBlock ∧ k_ ≠ gb314)) ∧ some k_ ≠ (.slice (some ad319) t315.length co13 : Value).ownBlock)) _ _ (rd_L1 t315 x9_1) t320 t323 _ ?side1 ?side2 ?side3 A10.out).mono ?_
        (case side1 => exact cbz HR0_1)
        (case side2 => exact HC0_1.out)
        (case side3 => exact HL319_0.out)
        rintro e w15 ⟨v321, rfl, ho0, hb⟩
        have HS2_ := (hb.cell (World.block_lt_of_cell? _ _ (hHeld.2.2))).trans (hHeld.2.2)
        refine ⟨_, rfl, ?_⟩
        have n0_ := Aside0.mk (Kd.N_elder' (by (with_reducible repeat (first | apply Kd.N_alloc | apply Kd.N_drewN | apply Kd.N_drew)); exact HO_6.out) (Kd.R_base ho0) hb)
        have n1_ := Aside0.mk (Kd.N_elder' (by (with_reducible repeat (first | apply Kd.N_alloc | apply Kd.N_drewN | apply Kd.N_drew)); exact HO_8.out) (Kd.R_base ho0) hb)
        have n2_ := Aside0.mk (Kd.V_elder' (by (with_reducible repeat (first | apply Kd.V_alloc | apply Kd.V_drewN | apply Kd.V_drew)); exact HL319_0.out) (Kd.R_base ho0) hb)
        have n3_ := Aside0.mk (Kd.R_lower (Kd.R_newM (M := fun k_ => (w.heap.size ≤ k_)) (Kd.R_mono (ok' := fun k_ => True) ho0 (fun _ hk_ => trivial)) (below_size bel) (fun k_ h_ => h_)) (below_size bel))
        have n4_ := Aside0.mk (blk_below (g := gb314) blkz hb)
        have n5_ := Aside0.mk (Kd.C_below (by repeat (first | (with_reducible exact HR319_0.out) | (with_reducible refine Kd.C_alloc ?_ _) | (with_reducible refine Kd.C_drewN ?_ _) | (with_reducible refine Kd.C_drew ?_) | exact HR319_0.out)) hb)
        have n6_ := Aside0.mk (below_step bel hb)
        clear HO_6
        clear HO_8
        clear HL319_0
        clear BK314
        clear HR319_0
        clear HB
        have HO_6 := n0_
        have HO_8 := n1_
        have HL319_0 := n2_
        have HO322 := n3_
        have BK314 := n4_
        have HR319_0 := n5_
        have HB := n6_
        clear n0_ n1_ n2_ n3_ n4_ n5_ n6_
        (try clear hb)
        (try clear hb2)
        (try clear hk)
        (try clear hi)
        (try clear ho0)
        refine hK.out _ _ ⟨(blk_cell BK314.out 0).trans rfl, (blk_cell BK314.out 1).trans rfl, HS2_⟩ (fun hHeld => ?_)
        clear hK K
        refine norm_ (a' := ?_) ?_ ?_
        rotate_left
        ·
         show Act.put _ (some 33) _ = _
         simp only [Act.put, List.setIfInBounds_toArray, List.set_cons_zero, List.set_cons_succ, i64_w, i32_w]
         rfl
        refine pst (i := 6) (N := some 27) (bz 11 127) (any_of HT_.out (by kernel_rfl)) ?_
        refine pst (i := 7) (N := some 34) (bz 11 255) (any_of HT_.out (by kernel_rfl)) ?_
        refine pst (i := 8) (N := some 35) (bz 11 511) (any_of HT_.out (by kernel_rfl)) ?_
        refine pst (i := 9) (N := some 10) (bz 11 1023) (any_of HT_.out (by kernel_rfl)) ?_
        refine pst (i := 10) (N := some 11) (bz 11 2047) (any_of HT_.out (by kernel_rfl)) ?_
        refine done_ (done_of HT_.out (by kernel_rfl)) ?_
        obtain ⟨Ao16, co16, eo16⟩ := Kd.R_slice HO322.out
        subst eo16
        have p324 : 0 ≤ (x9_1 : Int) := of_decide_eq_true asz
        have q324 : x9_1 < (t315.length : Int) := of_decide_eq_true asz
        obtain ⟨ad324, A324_0, c324_0, e324, hx324_0, hl324_0, hi324_0⟩ := at_L1 (Kd.N_reads' HO_6.out).2.2 x9_1 p324 q324
        obtain rfl : ad319 = ad324 := (by injection e324)
        obtain ⟨ce324, hce324, hMe324, hcc324⟩ := Kd.N_get HO_6.out [] x9_1 p324 (by first | exact q324 | exact of_decide_eq_true asz | (have e_ := (Kd.N_reads' HO_6.out).1; omega))
        obtain ⟨ua324_0, uc324_0, rfl, ul324_0, ge324_0⟩ := Kd.FK_slice_open hMe324
        have hv324_0 := hcc324 0 _ rfl
        rw [Nat.add_zero, show ((Kd.slice 3 (Kd.int .i64))).sz = 1 from rfl, Nat.mul_one] at hv324_0
        replace hv324_0 := Option.some.inj (hv324_0.symm.trans hx324_0)
        injection hv324_0 with hva_ hvn_ hvc_
        rw [hva_] at ge324_0
        rw [hvc_] at ul324_0
        have HL324_0 := Aside0.mk (show Kd.V (Kd.int .i64) 3 _ w.heap.size _ _ (rd_L1 t315 x9_1) from Kd.V_mk ul324_0 ge324_0)
        clear hva_ hvn_ hvc_ ge324_0 ul324_0
        clear hcc324 hce324
        have HR324_0 := Aside0.mk hi324_0
        have HC324_0 := Aside0.mk hl324_0
        clear hi324_0 hl324_0
        replace p324 := eq_true p324
        replace q324 := eq_true q324
        (try clear hHeld); (try clear HS2_)
        try go_wp2_with (first | ((with_reducible refine gate_builtin (b := .append) (xs := #[.tmp 39, .tmp 44]) rfl ?_); at_builtin; refine Kd.N_append (Kd.slice 3 (Kd.int .i64)) (w0 := w) w.heap.size rfl (.tmp 39) (.tmp 44) 31 25 (.slice none 0 0) 24 rfl Try.underlying31 info25 rfl (by decide) (by omega) u8 x8_1 (rd_L1 t315 x9_1) [.slice A324_0 (rd_L1 t315 x9_1).length c324_0] (fun k_ => (P1_ k_ ∨ w.heap.size ≤ k_) ∧ some k_ ≠ (.slice (some ad319) t315.length co13 : Value).ownBlock ∧ some k_ ≠ (.slice Ao16 t320.length co16 : Value).ownBlock ∧ k_ ≠ gb314) (fun k_ => ((fun k_ => (P1_ k_ ∨ w.heap.size ≤ k_) ∧ some k_ ≠ (.slice (some ad319) t315.length co13 : Value).ownBlock ∧ some k_ ≠ (.slice Ao16 t320.length co16 : Value).ownBlock ∧ k_ ≠ gb314)) k_ ∧ some k_ ≠ (u8 : Value).ownBlock) rfl rfl ?aP (fun _ hk => hk) ?aF ?aO ?aB ?aS ?aL ?_; (case aP => exact (Kd.FK_slice_mk (Kd.V_reads' (Kd.V_mono (ok' := (fun k_ => ((fun k_ => (P1_ k_ ∨ w.heap.size ≤ k_) ∧ some k_ ≠ (.slice (some ad319) t315.length co13 : Value).ownBlock ∧ some k_ ≠ (.slice Ao16 t320.length co16 : Value).ownBlock ∧ k_ ≠ gb314)) k_ ∧ some k_ ≠ (u8 : Value).ownBlock)) (HL324_0.out) (fun k_ hk => ⟨⟨hk.1.1.1, ⟨hk.2, ⟨hk.1.2, hk.1.1.2.2⟩⟩⟩, hk.1.1.2.1⟩))).2.1 (Kd.V_F (Kd.V_mono (ok' := (fun k_ => ((fun k_ => (P1_ k_ ∨ w.heap.size ≤ k_) ∧ some k_ ≠ (.slice (some ad319) t315.length co13 : Value).ownBlock ∧ some k_ ≠ (.slice Ao16 t320.length co16 : Value).ownBlock ∧ k_ ≠ gb314)) k_ ∧ some k_ ≠ (u8 : Value).ownBlock)) (HL324_0.out) (fun k_ hk => ⟨⟨hk.1.1.1, ⟨hk.2, ⟨hk.1.2, hk.1.1.2.2⟩⟩⟩, hk.1.1.2.1⟩))))); (case aB => exact bel); (case aF => exact (fun k_ hk => ⟨(.inr (Nat.le_trans (below_size bel) hk)), Kd.fresh' (Kd.N_lt (by (with_reducible repeat (first | apply Kd.N_alloc | apply Kd.N_drewN | apply Kd.N_drew)); exact HO_6.out)) k_ hk, Kd.fresh' (Kd.R_lt (ownx HO322)) k_ hk, Kd.freshB (g := gb314) (o := .cells #[.int .i64 a0_0, .slice A0_1 l0_1.length c0_1] 24 (0, 0)) blkz k_ hk⟩)); (case aO => exact (by (with_reducible repeat (first | apply Kd.N_alloc | apply Kd.N_drewN | apply Kd.N_drew)); exact Kd.N_mono HO_8.out (fun _ hk => ⟨hk.1.1, ⟨hk.1.2.1, ⟨hk.2, hk.1.2.2⟩⟩⟩))); (case aS => exact (below_size bel)); (case aL => have := LMc12.out; omega); intro v326 w17 ho hb hg hat; rw [← Ny325.out] at ho; have n0_ := Aside0.mk (Kd.N_afterv (ok := (fun k_ => (P1_ k_ ∨ w.heap.size ≤ k_) ∧ some k_ ≠ (.slice Ao16 t320.length co16 : Value).ownBlock ∧ k_ ≠ gb314)) (by (with_reducible repeat (first | apply Kd.N_alloc | apply Kd.N_drewN | apply Kd.N_drew)); exact Kd.N_mono HO_6.out (fun _ hk => ⟨⟨hk.1.1, ⟨hk.2, hk.1.2.2⟩⟩, hk.1.2.1⟩)) hg hat); have n1_ := Aside0.mk (blk_grown (g := gb314) (o := .cells #[.int .i64 a0_0, .slice A0_1 l0_1.length c0_1] 24 (0, 0)) blkz hg (Kd.N_ne HO_8.out BK314.out (by decide))); have n2_ := Aside0.mk (Kd.V_afterv (ok := (fun k_ => (P1_ k_ ∨ w.heap.size ≤ k_) ∧ some k_ ≠ (.slice (some ad319) t315.length co13 : Value).ownBlock ∧ some k_ ≠ (.slice Ao16 t320.length co16 : Value).ownBlock ∧ k_ ≠ gb314)) (by (with_reducible repeat (first | apply Kd.V_alloc | apply Kd.V_drewN | apply Kd.V_drew)); exact Kd.V_mono HL319_0.out (fun _ hk => ⟨⟨hk.1.1.1, ⟨hk.1.2, ⟨hk.2, hk.1.1.2.2⟩⟩⟩, hk.1.1.2.1⟩)) hg hat); have n3_ := Aside0.mk (Kd.R_over' (ownx HO322) (Kd.N_typed (by (with_reducible repeat (first | apply Kd.N_alloc | apply Kd.N_drewN | apply Kd.N_drew)); exact HO_8.out)) (by decide) hg); have n4_ := Aside0.mk (Kd.V_afterv (ok := (fun k_ => (P1_ k_ ∨ w.heap.size ≤ k_) ∧ some k_ ≠ (.slice (some ad319) t315.length co13 : Value).ownBlock ∧ some k_ ≠ (.slice Ao16 t320.length co16 : Value).ownBlock ∧ k_ ≠ gb314)) (by (with_reducible repeat (first | apply Kd.V_alloc | apply Kd.V_drewN | apply Kd.V_drew)); exact Kd.V_mono HL324_0.out (fun _ hk => ⟨⟨hk.1.1.1, ⟨hk.2, ⟨hk.1.2, hk.1.1.2.2⟩⟩⟩, hk.1.1.2.1⟩)) hg hat); have n5_ := Aside0.mk (hb); have n6_ := Aside0.mk (ho); clear HO_6; clear BK314; clear HL319_0; clear HO322; clear HL324_0; clear HB; clear HO_8; have HO_6 := n0_; have BK314 := n1_; have HL319_0 := n2_; have HO322 := n3_; have HL324_0 := n4_; have HB := n5_; have HO327 := n6_; clear n0_ n1_ n2_ n3_ n4_ n5_ n6_; clear ho hb hg hat))
        go_roundg k1
        case measure => have := HK1.out; omega
        case rel => exact ⟨(y325), (wrap64 (x9_1 + 1)), rsz, H', ⟨by have := HK1.out; omega⟩, ⟨by (with_reducible repeat (first | apply Kd.N_alloc | apply Kd.N_drewN | apply Kd.N_drew)); exact Kd.N_mono HO_6.out (fun _ hk => ⟨hk.1.1, ⟨hk.2, hk.1.2.2⟩⟩)⟩, ⟨by (with_reducible repeat (first | apply Kd.N_alloc | apply Kd.N_drewN | apply Kd.N_drew)); exact Kd.N_mono HO327.out (fun _ hk => ⟨hk.1, ⟨hk.2.1, hk.2.2.2⟩⟩)⟩, ⟨blkz⟩, ⟨bel⟩⟩
       ·
        rw [if_neg c12] at H
        exact absurd H (by simp)
      ·
       rw [if_neg c11] at H
       have c11b0 : ((t320.length : Int) == 0) = false := beq_eq_false_iff_ne.mpr c11
       have c11b1 : ((t320.length : Int) != 0) = true := bne_iff_ne.mpr c11
       have c11b2 : ¬ (t320 = []) := fun h_ => c11 (by rw [h_]; rfl)
       have H' := Aside0.mk H
       clear H
       obtain ⟨Ao18, co18, eo18⟩ := Kd.N_slice HO_6.out
       subst eo18
       try go_wp2
       have n0_ := Aside0.mk (Kd.N_drew HO_6.out)
       have n1_ := Aside0.mk (Kd.N_drew HO_8.out)
       have n2_ := Aside0.mk (blk_drew BK314.out)
       have n3_ := Aside0.mk (below_drew1 HB.out)
       clear HO_6
       clear HO_8
       clear BK314
       clear HB
       have HO_6 := n0_
       have HO_8 := n1_
       have BK314 := n2_
       have HB := n3_
       clear n0_ n1_ n2_ n3_
       have p319 : 0 ≤ (x9_1 : Int) := of_decide_eq_true asz
       have q319 : x9_1 < (t315.length : Int) := of_decide_eq_true asz
       obtain ⟨ad319, A319_0, c319_0, e319, hx319_0, hl319_0, hi319_0⟩ := at_L1 (Kd.N_reads' HO_6.out).2.2 x9_1 p319 q319
       cases e319
       obtain ⟨ce319, hce319, hMe319, hcc319⟩ := Kd.N_get HO_6.out [] x9_1 p319 (by first | exact q319 | exact of_decide_eq_true asz | (have e_ := (Kd.N_reads' HO_6.out).1; omega))
       obtain ⟨ua319_0, uc319_0, rfl, ul319_0, ge319_0⟩ := Kd.FK_slice_open hMe319
       have hv319_0 := hcc319 0 _ rfl
       rw [Nat.add_zero, show ((Kd.slice 3 (Kd.int .i64))).sz = 1 from rfl, Nat.mul_one] at hv319_0
       replace hv319_0 := Option.some.inj (hv319_0.symm.trans hx319_0)
       injection hv319_0 with hva_ hvn_ hvc_
       rw [hva_] at ge319_0
       rw [hvc_] at ul319_0
       have HL319_0 := Aside0.mk (show Kd.V (Kd.int .i64) 3 _ w.heap.size _ _ (rd_L1 t315 x9_1) from Kd.V_mk ul319_0 ge319_0)
       clear hva_ hvn_ hvc_ ge319_0 ul319_0
       clear hcc319 hce319
       have HR319_0 := Aside0.mk hi319_0
       have HC319_0 := Aside0.mk hl319_0
       clear hi319_0 hl319_0
       replace p319 := eq_true p319
       replace q319 := eq_true q319
       refine start_ (n := 11) (S := fun w' => w'.cell? ⟨gb314, 0, none⟩ = some (.int .i64 a0_0) ∧ w'.cell? ⟨gb314, 1, none⟩ = some (.slice A0_1 l0_1.length c0_1) ∧ w'.cell? (ad319.add (x9_1).toNat) = some (.slice A319_0 (rd_L1 t315 x9_1).length c319_0)) (ds := []) #[false, false, false, false, false, false, false, false, false, false, false] (by kernel_rfl) rfl rfl ⟨(blk_cell BK314.out 0).trans rfl, (blk_cell BK314.out 1).trans rfl, hx319_0⟩ (fun hHeld => ?_); refine with_tabW dropperref06_Stuck.tab8 dropperref06_Stuck.bits8 (fun HT_ HW_ => ?_)
       generalize wr.drew = w19 at HO_6 HO_8 BK314 HB HL319_0 HR319_0 hx319_0 hHeld ⊢
       refine pst (i := 1) (N := some 29) (bz 11 2) (any_of HT_.out (by kernel_rfl)) ?_
       refine pst (i := 2) (N := some 30) (bz 11 6) (any_of HT_.out (by kernel_rfl)) ?_
       refine pst (i := 3) (N := some 31) (bz 11 14) (any_of HT_.out (by kernel_rfl)) ?_
       refine tst3 (i := 0) (N := some 28) (bz 11 15) (take_ofW HT_.out HW_.out (by kernel_rfl)) hHeld ?_
       refine tst3 (i := 4) (N := some 32) (bz 11 31) (take_ofW HT_.out HW_.out (by kernel_rfl)) hHeld ?_
       refine one_ (i := 5) (N := some 33) #[true, true, true, true, true, true, false, false, false, false, false] rfl rfl (one_of HT_.out (by kernel_rfl)) (by decide) (fun K hK => ?_)
       refine goes_ Try.func40 (by kernel_rfl) rfl #[.agg #[.int .i64 a0_0, .slice A0_1 l0_1.length c0_1], .slice A319_0 (rd_L1 t315 x9_1).length c319_0] (by rfl) rfl rfl mapz ?_
       with_reducible refine (dropperref06_Can.calls k1 a0_0 _ _ l0_1 (fun k_ => (((P1_ k_ ∨ w.heap.size ≤ k_) ∧ (some k_ ≠ (u8 : Value).ownBlock ∧ k_ ≠ gb314)) ∧ some k_ ≠ (.slice (some ad319) t315.length co18 : Value).ownBlock)) _ _ (rd_L1 t315 x9_1) t320 t323 _ ?side1 ?side2 ?side3 A10.out).mono ?_
       (case side1 => exact cbz HR0_1)
       (case side2 => exact HC0_1.out)
       (case side3 => exact HL319_0.out)
       rintro e w20 ⟨v321, rfl, ho0, hb⟩
       have HS2_ := (hb.cell (World.block_lt_of_cell? _ _ (hHeld.2.2))).trans (hHeld.2.2)
       refine ⟨_, rfl, ?_⟩
       have n0_ := Aside0.mk (Kd.N_elder' (by (with_reducible repeat (first | apply Kd.N_alloc | apply Kd.N_drewN | apply Kd.N_drew)); exact HO_6.out) (Kd.R_base ho0) hb)
       have n1_ := Aside0.mk (Kd.N_elder' (by (with_reducible repeat (first | apply Kd.N_alloc | apply Kd.N_drewN | apply Kd.N_drew)); exact HO_8.out) (Kd.R_base ho0) hb)
       have n2_ := Aside0.mk (Kd.V_elder' (by (with_reducible repeat (first | apply Kd.V_alloc | apply Kd.V_drewN | apply Kd.V_drew)); exact HL319_0.out) (Kd.R_base ho0) hb)
       have n3_ := Aside0.mk (Kd.R_lower (Kd.R_newM (M := fun k_ => (w.heap.size ≤ k_)) (Kd.R_mono (ok' := fun k_ => True) ho0 (fun _ hk_ => trivial)) (below_size bel) (fun k_ h_ => h_)) (below_size bel))
       have n4_ := Aside0.mk (blk_below (g := gb314) blkz hb)
       have n5_ := Aside0.mk (Kd.C_below (by repeat (first | (with_reducible exact HR319_0.out) | (with_reducible refine Kd.C_alloc ?_ _) | (with_reducible refine Kd.C_drewN ?_ _) | (with_reducible refine Kd.C_drew ?_) | exact HR319_0.out)) hb)
       have n6_ := Aside0.mk (below_step bel hb)
       clear HO_6
       clear HO_8
       clear HL319_0
       clear BK314
       clear HR319_0
       clear HB
       have HO_6 := n0_
       have HO_8 := n1_
       have HL319_0 := n2_
       have HO322 := n3_
       have BK314 := n4_
       have HR319_0 := n5_
       have HB := n6_
       clear n0_ n1_ n2_ n3_ n4_ n5_ n6_
       (try clear hb)
       (try clear hb2)
       (try clear hk)
       (try clear hi)
       (try clear ho0)
       refine hK.out _ _ ⟨(blk_cell BK314.out 0).trans rfl, (blk_cell BK314.out 1).trans rfl, HS2_⟩ (fun hHeld => ?_)
       clear hK K
       refine norm_ (a' := ?_) ?_ ?_
       rotate_left
       ·
        show Act.put _ (some 33) _ = _
        simp only [Act.put, List.setIfInBounds_toArray, List.set_cons_zero, List.set_cons_succ, i64_w, i32_w]
        rfl
       refine pst (i := 6) (N := some 27) (bz 11 127) (any_of HT_.out (by kernel_rfl)) ?_
       refine pst (i := 7) (N := some 34) (bz 11 255) (any_of HT_.out (by kernel_rfl)) ?_
       refine pst (i := 8) (N := some 35) (bz 11 511) (any_of HT_.out (by kernel_rfl)) ?_
       refine pst (i := 9) (N := some 10) (bz 11 1023) (any_of HT_.out (by kernel_rfl)) ?_
       refine pst (i := 10) (N := some 11) (bz 11 2047) (any_of HT_.out (by kernel_rfl)) ?_
       refine done_ (done_of HT_.out (by kernel_rfl)) ?_
       obtain ⟨Ao21, co21, eo21⟩ := Kd.R_slice HO322.out
       subst eo21
       try go_wp2
       go_roundg k1
       case measure => have := HK1.out; omega
       case rel => exact ⟨(x8_1), (wrap64 (x9_1 + 1)), rsz, H', ⟨by have := HK1.out; omega⟩, ⟨by (with_reducible repeat (first | apply Kd.N_alloc | apply Kd.N_drewN | apply Kd.N_drew)); exact Kd.N_mono HO_6.out (fun _ hk => ⟨hk.1.1, ⟨hk.1.2.1, hk.1.2.2⟩⟩)⟩, ⟨by (with_reducible repeat (first | apply Kd.N_alloc | apply Kd.N_drewN | apply Kd.N_drew)); exact Kd.N_mono HO_8.out (fun _ hk => ⟨hk.1.1, ⟨hk.1.2.1, hk.1.2.2⟩⟩)⟩, ⟨blkz⟩, ⟨bel⟩⟩
     ·
      rw [if_neg c9] at H
      exact absurd H (by simp)
    ·
     rw [if_neg c8] at H
     have c8b0 : decide (x9_1 < (t315.length : Int)) = false := decide_eq_false c8
     clear c8
     simp only [Option.some.injEq, Prod.mk.injEq] at H
     obtain ⟨rfl, rfl⟩ := H
     obtain ⟨Ao22, co22, eo22⟩ := Kd.N_slice HO_6.out
     subst eo22
     go_wp2
     go_ret2
     exact ⟨_, ezz, by (with_reducible repeat (first | apply Kd.N_alloc | apply Kd.N_drewN | apply Kd.N_drew)); exact Kd.N_mono HO_8.out (fun _ hk => hk.1), bel⟩
 ·
  rw [if_neg c4] at H
  have c4b0 : (t318 == 0) = false := beq_eq_false_iff_ne.mpr c4
  have c4b1 : (t318 != 0) = true := bne_iff_ne.mpr c4
  simp only [Option.some.injEq, Prod.mk.injEq] at H
  obtain ⟨rfl, rfl⟩ := H
  go_enter Try.func35, Try.ntmps35
  go_wp2_with (first | ((with_reducible refine gate_dst (N := 2) rfl ?_); refine box_event ?hg (N := 2) ?hd (cs := #[.int .i64 a0_0, .slice A0_1 l0_1.length c0_1]) (t := 24) ?hr ?_; (case hd => rfl); (case hg => rfl); (case hr => first | (go_simp; done) | (go_simp; rfl)); intro gb314 hg w23 hbox hb; have BK314 := Aside0.mk (hbox); have GW314 := bsz (w := w) hg; have GE314 := GW314; replace HO1 := Aside0.mk (Kd.V_below (Kd.V_elderB (by (with_reducible repeat (first | apply Kd.V_alloc | apply Kd.V_drewN | apply Kd.V_drew)); exact HO1.out) gb314 (Nat.le_of_eq hg.symm)) hb); replace HB := Aside0.mk (below_step bel hb); clear hb hbox hg; obtain ⟨hcz24_0, hcz24_1⟩ := bc2 BK314.out) | ((with_reducible refine gate_callee (f := 33) rfl ?_); refine goesL_ (some 15) rfl rfl Try.func33 (by kernel_rfl) rfl #[.agg #[.int .i64 a0_0, .slice A0_1 l0_1.length c0_1], .slice A1 l1.length c1] rfl mapz ?_; (with_reducible refine (dropperref06_Reach.calls k a0_0 _ _ l0_1 (fun k_ => ((P1_ k_ ∨ w.heap.size ≤ k_) ∧ k_ ≠ gb314)) _ _ l1 t315 t318 _ (cbz HR0_1) HC0_1.out HO1.out A3.out).mono ?_); rintro e w25 ⟨v316, rfl, ho0, hb⟩; refine ⟨_, rfl, ?_⟩; have HO317 := Aside0.mk (Kd.N_lower (Kd.N_mono (ok' := fun k_ => (P1_ k_ ∨ w.heap.size ≤ k_) ∧ k_ ≠ gb314) ho0 (fun k_ hk_ => ⟨Or.elim hk_ (fun hs_ => hs_.1) (fun hn_ => (.inr (Nat.le_trans (below_size bel) hn_))), Or.elim hk_ (fun hs_ => hs_.2) (fun hn_ => (Kd.freshB (g := gb314) (o := .cells #[.int .i64 a0_0, .slice A0_1 l0_1.length c0_1] 24 (0, 0)) blkz k_ hn_))⟩)) (below_size bel)); replace HO1 := Aside0.mk (Kd.V_elder' (by (with_reducible repeat (first | apply Kd.V_alloc | apply Kd.V_drewN | apply Kd.V_drew)); exact HO1.out) (Kd.N_base ho0) hb); replace BK314 := Aside0.mk (blk_below (g := gb314) blkz hb); replace HB := Aside0.mk (below_step bel hb); (try clear hb); (try clear hb2); (try clear hk); (try clear hi); (try clear ho0)))
  go_ret2
  exact ⟨_, ezz, by first | exact Kd.S_nil _ _ _ _ _ | exact Kd.N_nil _ _ _ _ _ | exact Kd.V_nil _ _ _ _ _ | exact Kd.Q_nil _ _ _ _ _ | exact Kd.R_nil _ _ _ _ _, bel⟩

/-! ### dropperref06_Greatest: function 36 -/
mutual
def dropperref06_Greatest.l0 : Nat → List (List Int) → List Int → Int → Int → List (S64) → Option (List Int × Int)
 | 0, _, _, _, _, _ => none
 | k + 1, x6, x8, x9, x329000, x329001 => if x9 < (x6.length : Int) then (dropperref06_Greatest.l1 k x6 x8 x9 0 x329000 x329001) else (some (x8, 0))
def dropperref06_Greatest.l1 : Nat → List (List Int) → List Int → Int → Int → Int → List (S64) → Option (List Int × Int)
 | 0, _, _, _, _, _, _ => none
 | k + 1, x6, x8, x9, x10, x329000, x329001 => if x10 < x329000 then (if 0 ≤ x10 then (if x10 < (x8.length : Int) then (if 0 ≤ x9 then (if x9 < (x6.length : Int) then (if x10 < ((rd_L1 x6 x9).length : Int) then (dropperref06_Greatest.l1 k x6 (x8.set (x10 : Int).toNat (mx (rd x8 x10) (rd (rd_L1 x6 x9) x10))) x9 (wrap64 (x10 + 1)) x329000 x329001) else (none)) else (none)) else (none)) else (none)) else (none)) else (dropperref06_Greatest.l0 k x6 x8 (wrap64 (x9 + 1)) x329000 x329001)
end
def dropperref06_Greatest.f (k : Nat) (a0_0 : Int) (l0_1 : List (S64)) (l1 : List Int) : Option (List Int × Int) := (dropperref06_Reach.f k a0_0 l0_1 l1).bind fun bt329 => (if bt329.2 = 0 then ((some (([] : List Int) : List Int)).bind fun y333 => (if y333.length + l1.length < 17592186044416 then (dropperref06_Greatest.l0 k bt329.1 (y333 ++ l1) 0 a0_0 l0_1) else (none))) else (some (([] : List Int), bt329.2)))
def dropperref06_Greatest.T11 : Bool × List (List Nat × List Nat) := (true, [([], []), ([], []), ([], []), ([], []), ([2, 3], [2, 3]), ([4], [4]), ([], []), ([], []), ([6, 7], [6, 7]), ([8], [8]), ([], []), ([9, 10], [9, 10]), ([11], [11]), ([5, 12], [5, 12]), ([0, 1, 0, 1, 2, 3, 4, 5, 6, 7, 8, 9, 10, 11, 12, 13], [0, 1]), ([14, 13, 0, 1, 2, 3, 4, 5, 6, 7, 8, 9, 10, 11, 12, 13], [13, 14])])
def dropperref06_Greatest.B11 : List Nat := [0, 0, 0, 0, 12, 28, 0, 0, 192, 448, 0, 1984, 4032, 8188, 16383, 32767]
theorem dropperref06_Greatest.tab11 : rtab .any (opsOf Try.f36 11) = dropperref06_Greatest.T11 := by kernel_rfl
theorem dropperref06_Greatest.bits11 : waitsOk dropperref06_Greatest.T11.2 dropperref06_Greatest.B11 = true := by kernel_rfl
set_option maxHeartbeats 8000000 in
set_option maxRecDepth 100000 in
theorem dropperref06_Greatest.calls (k : Nat) (a0_0 : Int) (A0_1 : Option Addr) (c0_1 : Nat) (l0_1 : List (S64)) (A1 : Option Addr) (c1 : Nat) (l1 : List Int) (r1 : List Int) (r2 : Int) (w : World) (hr0_1 : Kd.C k64 w A0_1 l0_1.length l0_1) (hc0_1 : l0_1.length ≤ c0_1) (hr1 : Kd.C (Kd.int .i64) w A1 l1.length l1) (hc1 : l1.length ≤ c1) (h : dropperref06_Greatest.f k a0_0 l0_1 l1 = some (r1, r2)) :
  Calls Try.prog 36 #[.agg #[.int .i64 a0_0, .slice A0_1 l0_1.length c0_1], .slice A1 l1.length c1] w fun e w' => ∃ v0_ : Value, e = .returned (.tuple #[v0_, .int .i64 r2]) ∧ Kd.R (Kd.int .i64) 3 w' w.heap.size (fun _ => True) v0_ r1 ∧ Below w.heap.size w w' := by
 have hu24 := Try.underlying24
 have HR0_1 := Aside0.mk hr0_1
 have HC0_1 := Aside0.mk hc0_1
 clear hr0_1 hc0_1
 have HR1 := Aside0.mk hr1
 have HC1 := Aside0.mk hc1
 clear hr1 hc1
 have HB := Aside0.mk (Below.refl w.heap.size w)
 have H : ((dropperref06_Reach.f k a0_0 l0_1 l1).bind fun bt329 => (if bt329.2 = 0 then ((some (([] : List Int) : List Int)).bind fun y333 => (if y333.length + l1.length < 17592186044416 then (dropperref06_Greatest.l0 k bt329.1 (y333 ++ l1) 0 a0_0 l0_1) else (none))) else (some (([] : List Int), bt329.2)))) = some (r1, r2) := h
 clear h
 replace H := Option.bind_eq_some_iff.mp H
 obtain ⟨⟨t329, t332⟩, A30, H⟩ := H
 try dsimp only at H
 have A3 := Aside0.mk A30
 clear A30
 by_cases c4 : t332 = 0
 ·
  rw [if_pos c4] at H
  have c4b0 : (t332 == 0) = true := beq_iff_eq.mpr c4
  have c4b1 : (t332 != 0) = false := bne_eq_false_iff_eq.mpr c4
  clear c4
  obtain ⟨y333, hy333⟩ : ∃ y_ : List Int, y_ = (([] : List Int)) := ⟨_, rfl⟩
  replace H : (if y333.length + l1.length < 17592186044416 then (dropperref06_Greatest.l0 k t329 (y333 ++ l1) 0 a0_0 l0_1) else (none)) = some (r1, r2) := by first | (rw [hy333]; with_reducible exact H) | (have H2_ := (Option.bind_some _ _).symm.trans H; rw [hy333]; with_reducible exact H2_) | (have H2_ := (Option.bind_some _ _).symm.trans H; with_reducible exact H2_) | with_reducible exact H | (rw [hy333]; exact H) | exact H
  have Ny333 := Aside0.mk hy333
  clear hy333
  by_cases c5 : y333.length + l1.length < 17592186044416
  ·
   rw [if_pos c5] at H
   have LMc5 := Aside0.mk c5
   clear c5
   obtain ⟨y336, hy336⟩ : ∃ y_ : List Int, y_ = (y333 ++ l1) := ⟨_, rfl⟩
   replace H : (dropperref06_Greatest.l0 k t329 y336 0 a0_0 l0_1) = some (r1, r2) := by first | (rw [hy336]; with_reducible exact H) | (have H2_ := (Option.bind_some _ _).symm.trans H; rw [hy336]; with_reducible exact H2_) | (have H2_ := (Option.bind_some _ _).symm.trans H; with_reducible exact H2_) | with_reducible exact H | (rw [hy336]; exact H) | exact H
   have Ny336 := Aside0.mk hy336
   clear hy336
   have H' := Aside0.mk H
   clear H
   go_enter Try.func36, Try.ntmps36
   go_wp2_with (first | ((with_reducible refine gate_dst (N := 2) rfl ?_); refine box_event ?hg (N := 2) ?hd (cs := #[.int .i64 a0_0, .slice A0_1 l0_1.length c0_1]) (t := 24) ?hr ?_; (case hd => rfl); (case hg => rfl); (case hr => first | (go_simp; done) | (go_simp; rfl)); intro gb328 hg w6 hbox hb; have BK328 := Aside0.mk (hbox); have GW328 := bsz (w := w) hg; have GE328 := GW328; replace HB := Aside0.mk (below_step bel hb); clear hb hbox hg; obtain ⟨hcz7_0, hcz7_1⟩ := bc2 BK328.out) | ((with_reducible refine gate_callee (f := 33) rfl ?_); refine goesL_ (some 14) rfl rfl Try.func33 (by kernel_rfl) rfl #[.agg #[.int .i64 a0_0, .slice A0_1 l0_1.length c0_1], .slice A1 l1.length c1] rfl mapz ?_; (with_reducible refine (dropperref06_Reach.calls k a0_0 _ _ l0_1 (fun k_ => k_ < w.heap.size) _ _ l1 t329 t332 _ (cbz HR0_1) HC0_1.out ?side3 A3.out).mono ?_); (case side3 => exact Kd.V_mk HC1.out (Kd.F_below (Kd.C_F (Kd.heap_int .i64) HR1.out) bel)); rintro e w8 ⟨v330, rfl, ho0, hb⟩; refine ⟨_, rfl, ?_⟩; have HO331 := Aside0.mk (Kd.N_lower (Kd.N_mono (ok' := fun k_ => k_ ≠ gb328) ho0 (fun k_ hk_ => Or.elim hk_ (fun hs_ => fun e_ => Nat.not_le.2 hs_ (by rw [e_]; exact GW328.out)) (fun hn_ => (Kd.freshB (g := gb328) (o := .cells #[.int .i64 a0_0, .slice A0_1 l0_1.length c0_1] 24 (0, 0)) blkz k_ hn_)))) (below_size bel)); replace BK328 := Aside0.mk (blk_below (g := gb328) blkz hb); replace HB := Aside0.mk (below_step bel hb); (try clear hb); (try clear hb2); (try clear hk); (try clear hi); (try clear ho0)) | ((with_reducible refine gate_dst (N := 20) rfl ?_); refine Kd.R_lit (Kd.int .i64) _ 3 ?hg (N := 20) ?hd (xs := ([] : List Int)) (inner := []) (ok := fun _ => True) (okp := fun _ => True) ?hr ?hp (fun _ hk => hk) trivial (Below.refl _ _) (Nat.le_refl _) (by simp) ?_; (case hd => rfl); (case hg => rfl); (case hr => first | (go_simp; done) | (go_simp; rfl)); (case hp => exact (Reps.none _ _)); intro v334 w9 ho10 hb hg_ hnew_; clear hg_ hnew_; (first | rw [← Ny333.out] at ho10 | (simp only [Int.reduceToNat] at ho10; rw [← Ny333.out] at ho10)); have HO335 := Aside0.mk (Kd.R_lower ho10 (below_size bel)); replace HO331 := Aside0.mk (Kd.N_elder' (by (with_reducible repeat (first | apply Kd.N_alloc | apply Kd.N_drewN | apply Kd.N_drew)); exact HO331.out) (Kd.R_base ho10) hb); replace BK328 := Aside0.mk (blk_below (g := gb328) blkz hb); replace HB := Aside0.mk (below_step bel hb); clear hb ho10) | ((with_reducible refine gate_builtin (b := .append) (xs := #[.tmp 20, .tmp 21]) rfl ?_); at_builtin; refine Kd.R_append_rows (Kd.int .i64) (w0 := w) w.heap.size rfl (.tmp 20) (.tmp 21) 25 3 (.int .i64 0) 8 rfl Try.underlying25 info3 rfl (by decide) (by omega) v334 y333 l1 _ _ _ (fun _ => True) (fun _ => False) rfl rfl ?aO ?aR (fun _ _ h => h) (fun _ h => h.elim) ?aF ?aB ?aS ?aL ?_; (case aR => exact cbz HR1); (case aB => exact bel); (case aF => exact (fun _ _ => trivial)); (case aO => exact (ownx HO335)); (case aS => exact (below_size bel)); (case aL => have := LMc5.out; omega); intro v337 w11 ho hb hg hat; rw [← Ny336.out] at ho; have n0_ := Aside0.mk (blk_grown (g := gb328) (o := .cells #[.int .i64 a0_0, .slice A0_1 l0_1.length c0_1] 24 (0, 0)) blkz hg (Kd.R_ne HO335.out BK328.out (by decide))); have n1_ := Aside0.mk (Kd.N_afterv (ok := (fun k_ => k_ ≠ gb328)) (by (with_reducible repeat (first | apply Kd.N_alloc | apply Kd.N_drewN | apply Kd.N_drew)); exact HO331.out) hg hat); have n2_ := Aside0.mk (hb); have n3_ := Aside0.mk (ho); clear BK328; clear HO331; clear HB; clear HO335; have BK328 := n0_; have HO331 := n1_; have HB := n2_; have HO338 := n3_; clear n0_ n1_ n2_ n3_; clear ho hb hg hat))
   go_loopg [9] k (fun kq v9 w' => ∃ (x8_1 : List Int) (x9_1 : Int), v9 = .int .i64 x9_1 ∧ Aside0 (dropperref06_Greatest.l0 kq t329 x8_1 x9_1 a0_0 l0_1 = some (r1, r2)) ∧ Aside0 (kq ≤ k) ∧ Aside0 (Kd.N (Kd.slice 3 (Kd.int .i64)) 25 w' w.heap.size (fun k_ => some k_ ≠ (v337 : Value).ownBlock ∧ k_ ≠ gb328) v330 t329) ∧ Aside0 (Kd.R (Kd.int .i64) 3 w' w.heap.size (fun _ => True) v337 x8_1) ∧ Aside0 (w'.heap[gb328]? = some (.cells #[.int .i64 a0_0, (.slice A0_1 l0_1.length c0_1)] 24 (0, 0))) ∧ Aside0 (Below w.heap.size w w'))
   case atStart => exact ⟨(y336), (0), rsz, H', ⟨Nat.le_refl _⟩, ⟨by (with_reducible repeat (first | apply Kd.N_alloc | apply Kd.N_drewN | apply Kd.N_drew)); exact Kd.N_mono HO331.out (fun _ hk => ⟨hk.2, hk.1⟩)⟩, ⟨by (with_reducible repeat (first | apply Kd.R_alloc | apply Kd.R_drewN | apply Kd.R_drew)); exact HO338.out⟩, ⟨blkz⟩, ⟨bel⟩⟩
   case round =>
    clear H'
    (try clear c1); (try clear p2); (try clear c3); (try clear c4); (try clear c4b0); (try clear c4b1); (try clear c5); (try clear hcz7_0); (try clear hcz7_1); (try clear hfz7_0); (try clear hfz7_1)
    obtain ⟨x8_1, x9_1, rfl, HA, HK1, HO_6, HO_8, BK328, HB⟩ := hrel
    cases gk with
    | zero => exact absurd HA.out (by simp [dropperref06_Greatest.l0])
    | succ k1 =>
     have H := HA.out
     clear HA
     simp only [dropperref06_Greatest.l0] at H
     by_cases c12 : x9_1 < (t329.length : Int)
     ·
      rw [if_pos c12] at H
      have c12b0 : decide (x9_1 < (t329.length : Int)) = true := decide_eq_true c12
      clear c12
      have H' := Aside0.mk H
      clear H
      obtain ⟨Ao13, co13, eo13⟩ := Kd.N_slice HO_6.out
      subst eo13
      go_wp2
      go_loopg [10] k1 (fun kq v10 w' => ∃ (x8_2 : List Int) (x10_2 : Int), v10 = .int .i64 x10_2 ∧ Aside0 (dropperref06_Greatest.l1 kq t329 x8_2 x9_1 x10_2 a0_0 l0_1 = some (r1, r2)) ∧ Aside0 (kq ≤ k1) ∧ Aside0 (Kd.N (Kd.slice 3 (Kd.int .i64)) 25 w' w.heap.size (fun k_ => some k_ ≠ (v337 : Value).ownBlock ∧ k_ ≠ gb328) (.slice Ao13 t329.length co13) t329) ∧ Aside0 (Kd.R (Kd.int .i64) 3 w' w.heap.size (fun _ => True) v337 x8_2) ∧ Aside0 (w'.heap[gb328]? = some (.cells #[.int .i64 a0_0, (.slice A0_1 l0_1.length c0_1)] 24 (0, 0))) ∧ Aside0 (Below w.heap.size w w'))
      case atStart => exact ⟨(x8_1), (0), rsz, H', ⟨Nat.le_refl _⟩, ⟨by (with_reducible repeat (first | apply Kd.N_alloc | apply Kd.N_drewN | apply Kd.N_drew)); exact HO_6.out⟩, ⟨by (with_reducible repeat (first | apply Kd.R_alloc | apply Kd.R_drewN | apply Kd.R_drew)); exact HO_8.out⟩, ⟨blkz⟩, ⟨bel⟩⟩
      case round =>
       clear H'
       (try clear c1); (try clear p2); (try clear c3); (try clear c4); (try clear c4b0); (try clear c4b1); (try clear c5); (try clear c12); (try clear c12b0); (try clear hcz7_0); (try clear hcz7_1); (try clear hfz7_0); (try clear hfz7_1); (try clear p2)
       obtain ⟨x8_2, x10_2, rfl, HA, HK2, HO_6, HO_8, BK328, HB⟩ := hrel
       cases gk with
       | zero => exact absurd HA.out (by simp [dropperref06_Greatest.l1])
       | succ k2 =>
        have H := HA.out
        clear HA
        simp only [dropperref06_Greatest.l1] at H
        by_cases c14 : x10_2 < a0_0
        ·
         rw [if_pos c14] at H
         have c14b0 : decide (x10_2 < a0_0) = true := decide_eq_true c14
         clear c14
         by_cases c15 : 0 ≤ x10_2
         ·
          rw [if_pos c15] at H
          have c15b0 : decide (0 ≤ x10_2) = true := decide_eq_true c15
          clear c15
          by_cases c16 : x10_2 < (x8_2.length : Int)
          ·
           rw [if_pos c16] at H
           have c16b0 : decide (x10_2 < (x8_2.length : Int)) = true := decide_eq_true c16
           clear c16
           by_cases c17 : 0 ≤ x9_1
           ·
            rw [if_pos c17] at H
            have c17b0 : decide (0 ≤ x9_1) = true := decide_eq_true c17
            clear c17
            by_cases c18 : x9_1 < (t329.length : Int)
            ·
             rw [if_pos c18] at H
             have c18b0 : decide (x9_1 < (t329.length : Int)) = true := decide_eq_true c18
             clear c18
             by_cases c19 : x10_2 < ((rd_L1 t329 x9_1).length : Int)
             ·
              rw [if_pos c19] at H
              have c19b0 : decide (x10_2 < ((rd_L1 t329 x9_1).length : Int)) = true := decide_eq_true c19
              clear c19
              obtain ⟨ji20, hji20⟩ : ∃ j_ : Int, (mx (rd x8_2 x10_2) (rd (rd_L1 t329 x9_1) x10_2)) = j_ := ⟨_, rfl⟩
              replace H : (dropperref06_Greatest.l1 k2 t329 (x8_2.set (x10_2 : Int).toNat (ji20)) x9_1 (wrap64 (x10_2 + 1)) a0_0 l0_1) = some (r1, r2) := by first | (rw [hji20] at H; exact H) | (simp only [hji20] at H ⊢; exact H)
              have hji20_ : (if (rd x8_2 x10_2) < (rd (rd_L1 t329 x9_1) x10_2) then (rd (rd_L1 t329 x9_1) x10_2) else (rd x8_2 x10_2)) = ji20 := hji20
              obtain ⟨y342, hy342⟩ : ∃ y_ : List Int, y_ = (x8_2.set (x10_2 : Int).toNat (ji20)) := ⟨_, rfl⟩
              replace H : (dropperref06_Greatest.l1 k2 t329 y342 x9_1 (wrap64 (x10_2 + 1)) a0_0 l0_1) = some (r1, r2) := by first | (rw [hy342]; with_reducible exact H) | (have H2_ := (Option.bind_some _ _).symm.trans H; rw [hy342]; with_reducible exact H2_) | (have H2_ := (Option.bind_some _ _).symm.trans H; with_reducible exact H2_) | with_reducible exact H | (rw [hy342]; exact H) | exact H
              have Ny342 := Aside0.mk hy342
              clear hy342
              have H' := Aside0.mk H
              clear H
              obtain ⟨hcz22_0, hcz22_1⟩ := bc2 BK328.out
              obtain ⟨hfz22_0, hfz22_1⟩ := bf2 BK328.out
              try go_wp2
              have n0_ := Aside0.mk (Kd.N_drew HO_6.out)
              have n1_ := Aside0.mk (Kd.R_drew HO_8.out)
              have n2_ := Aside0.mk (blk_drew BK328.out)
              have n3_ := Aside0.mk (below_drew1 HB.out)
              clear HO_6
              clear HO_8
              clear BK328
              clear HB
              have HO_6 := n0_
              have HO_8 := n1_
              have BK328 := n2_
              have HB := n3_
              clear n0_ n1_ n2_ n3_
              obtain ⟨Ao24, co24, eo24⟩ := Kd.R_slice HO_8.out
              (first | subst eo24 | (injection eo24 with f1_ f2_ f3_; have f4_ := f1_.symm; have f5_ := f3_.symm; clear f1_ f2_ f3_; subst f4_; subst f5_))
              have p339 : 0 ≤ (x10_2 : Int) := of_decide_eq_true asz
              have q339 : x10_2 < (x8_2.length : Int) := of_decide_eq_true asz
              obtain ⟨ad339, e339, hx339_0⟩ := Kd.at_int (Kd.R_reads' HO_8.out).2.2 x10_2 p339 q339
              cases e339
              replace p339 := eq_true p339
              replace q339 := eq_true q339
              have p340 : 0 ≤ (x9_1 : Int) := of_decide_eq_true asz
              have q340 : x9_1 < (t329.length : Int) := of_decide_eq_true asz
              obtain ⟨ad340, A340_0, c340_0, e340, hx340_0, hl340_0, hi340_0⟩ := at_L1 (Kd.N_reads' HO_6.out).2.2 x9_1 p340 q340
              cases e340
              obtain ⟨ce340, hce340, hMe340, hcc340⟩ := Kd.N_get HO_6.out [] x9_1 p340 (by first | exact q340 | exact of_decide_eq_true asz | (have e_ := (Kd.N_reads' HO_6.out).1; omega))
              obtain ⟨ua340_0, uc340_0, rfl, ul340_0, ge340_0⟩ := Kd.FK_slice_open hMe340
              have hv340_0 := hcc340 0 _ rfl
              rw [Nat.add_zero, show ((Kd.slice 3 (Kd.int .i64))).sz = 1 from rfl, Nat.mul_one] at hv340_0
              replace hv340_0 := Option.some.inj (hv340_0.symm.trans hx340_0)
              injection hv340_0 with hva_ hvn_ hvc_
              rw [hva_] at ge340_0
              rw [hvc_] at ul340_0
              have HL340_0 := Aside0.mk (show Kd.V (Kd.int .i64) 3 _ w.heap.size _ _ (rd_L1 t329 x9_1) from Kd.V_mk ul340_0 ge340_0)
              clear hva_ hvn_ hvc_ ge340_0 ul340_0
              clear hcc340 hce340
              have HR340_0 := Aside0.mk hi340_0
              have HC340_0 := Aside0.mk hl340_0
              clear hi340_0 hl340_0
              replace p340 := eq_true p340
              replace q340 := eq_true q340
              have p341 : 0 ≤ (x10_2 : Int) := of_decide_eq_true asz
              have q341 : x10_2 < ((rd_L1 t329 x9_1).length : Int) := of_decide_eq_true asz
              obtain ⟨ad341, e341, hx341_0⟩ := Kd.at_int (by repeat (first | (with_reducible exact HR340_0.out) | (with_reducible refine Kd.C_alloc ?_ _) | (with_reducible refine Kd.C_drewN ?_ _) | (with_reducible refine Kd.C_drew ?_) | exact HR340_0.out)) x10_2 p341 q341
              cases e341
              replace p341 := eq_true p341
              replace q341 := eq_true q341
              have p21 : 0 ≤ (x10_2 : Int) := of_decide_eq_true asz
              have q21 : (x10_2 : Int) < ((x8_2.length : Int) : Int) := of_decide_eq_true asz
              obtain ⟨go21, co21, eo21, gb21, gl21, cl21, HG21⟩ := Kd.R_form HO_8.out (by omega)
              (first | cases eo21 | (injection eo21 with ea_ en_ ec_; (first | subst ea_ | (injection ea_ with ea_; subst ea_)); subst ec_; clear en_))
              have GB21 := Aside0.mk gb21
              have GG21 := Aside0.mk HG21
              clear gb21 gl21 HG21
              (first | simp only [add_plain] at hx339_0 | skip)
              obtain ⟨hx21_0, hf21_0⟩ := Kd.R_celln 0 HO_8.out (x10_2 : Int) p21 q21
              replace p21 := eq_true p21
              replace q21 := eq_true q21
              have HP25 := Kd.R_putn HO_8.out (x10_2 : Int) ji20
              rw [← Ny342.out] at HP25
              have HQ25 := Aside0.mk HP25
              clear HP25
              refine start_ (n := 16) (S := fun w' => w'.cell? ⟨go21, (x10_2).toNat, none⟩ = some (.int .i64 (rd x8_2 x10_2)) ∧ w'.cell? (ad340.add (x9_1).toNat) = some (.slice (some ad341) (rd_L1 t329 x9_1).length c340_0) ∧ w'.cell? (ad341.add (x10_2).toNat) = some (.int .i64 (rd (rd_L1 t329 x9_1) x10_2))) (ds := [15]) #[false, false, false, false, false, false, false, false, false, false, false, false, false, false, false, false] (by kernel_rfl) rfl rfl ⟨hx339_0, hx340_0, hx341_0⟩ (fun hHeld => ?_); refine with_tabW dropperref06_Greatest.tab11 dropperref06_Greatest.bits11 (fun HT_ HW_ => ?_)
              generalize wr.drew = w23 at HO_6 HO_8 BK328 HB GG21 HL340_0 HQ25 HR340_0 hf21_0 hx21_0 hx339_0 hx340_0 hx341_0 hHeld ⊢
              refine pst (i := 0) (N := some 35) (bz 16 1) (any_of HT_.out (by kernel_rfl)) ?_
              refine pst (i := 1) (N := some 36) (bz 16 3) (any_of HT_.out (by kernel_rfl)) ?_
              refine pst (i := 2) (N := some 37) (bz 16 7) (any_of HT_.out (by kernel_rfl)) ?_
              refine pst (i := 3) (N := some 38) (bz 16 15) (any_of HT_.out (by kernel_rfl)) ?_
              refine pst (i := 4) (N := some 39) (bz 16 31) (any_of HT_.out (by kernel_rfl)) ?_
              refine pst (i := 6) (N := some 41) (bz 16 95) (any_of HT_.out (by kernel_rfl)) ?_
              refine pst (i := 7) (N := some 42) (bz 16 223) (any_of HT_.out (by kernel_rfl)) ?_
              refine pst (i := 8) (N := some 43) (bz 16 479) (any_of HT_.out (by kernel_rfl)) ?_
              refine pst (i := 10) (N := some 45) (bz 16 1503) (any_of HT_.out (by kernel_rfl)) ?_
              refine tst3 (i := 5) (N := some 40) (bz 16 1535) (take_ofW HT_.out HW_.out (by kernel_rfl)) hHeld ?_
              refine tst3 (i := 9) (N := some 44) (bz 16 2047) (take_ofW HT_.out HW_.out (by kernel_rfl)) hHeld ?_
              refine pst (i := 11) (N := some 46) (bz 16 4095) (any_of HT_.out (by kernel_rfl)) ?_
              refine tst3 (i := 12) (N := some 47) (bz 16 8191) (take_ofW HT_.out HW_.out (by kernel_rfl)) hHeld ?_
              refine pst (i := 13) (N := some 48) (bz 16 16383) (any_of HT_.out (by kernel_rfl)) ?_
              refine pst (i := 14) (N := some 49) (bz 16 32767) (any_of HT_.out (by kernel_rfl)) ?_
              refine last_ (i := 15) (N := none) #[true, true, true, true, true, true, true, true, true, true, true, true, true, true, true, true] rfl rfl (one_of HT_.out (by kernel_rfl)) (by decide) (fun K hK => ?_)
              refine skip_ (w1 := ?_) (by rfl) rfl ?_ ?_
              rotate_left
              ·
               go_simp
               rfl
              refine hK.out _ _ ?_
              clear hK K
              refine done_ (done_of HT_.out (by kernel_rfl)) ?_
              try go_wp2
              go_roundg k2
              case measure => have := HK1.out; have := HK2.out; omega
              case rel => exact ⟨(y342), (wrap64 (x10_2 + 1)), rsz, H', ⟨by have := HK1.out; have := HK2.out; omega⟩, ⟨by (with_reducible repeat (first | apply Kd.N_alloc | apply Kd.N_drewN | apply Kd.N_drew)); exact Kd.N_mono (Kd.N_far (p := ⟨go21, (x10_2 : Int).toNat, none⟩) (Kd.N_mono HO_6.out (fun k_ hk => (⟨hk, fun e_ => hk.1 (by rw [e_]; rfl)⟩ : _ ∧ k_ ≠ go21))) (fun _ hk => hk.2) (.int .i64 ji20)) (fun _ hk => ⟨hk.1.1, hk.1.2⟩)⟩, ⟨by (with_reducible repeat (first | apply Kd.R_alloc | apply Kd.R_drewN | apply Kd.R_drew)); exact HQ25.out⟩, ⟨by (with_reducible repeat (first | refine blk_drewN ?_ _ | refine blk_drew ?_ | refine blk_alloc ?_ _)); refine blk_far ?_ (by have h_ := Kd.R_ne HO_8.out BK328.out (by decide); intro e_; exact h_ (by rw [e_]; rfl)) _; (with_reducible repeat (first | refine blk_drewN ?_ _ | refine blk_drew ?_ | refine blk_alloc ?_ _)); exact BK328.out⟩, ⟨by repeat (first | (with_reducible first | exact HB.out | apply below_alloc | apply pw_below_drewN | apply below_drew1 | refine below_set ?_ GB21.out | refine below_set ?_ GE328.out) | exact HB.out)⟩⟩
             ·
              rw [if_neg c19] at H
              exact absurd H (by simp)
            ·
             rw [if_neg c18] at H
             exact absurd H (by simp)
           ·
            rw [if_neg c17] at H
            exact absurd H (by simp)
          ·
           rw [if_neg c16] at H
           exact absurd H (by simp)
         ·
          rw [if_neg c15] at H
          exact absurd H (by simp)
        ·
         rw [if_neg c14] at H
         have c14b0 : decide (x10_2 < a0_0) = false := decide_eq_false c14
         clear c14
         have H' := Aside0.mk H
         clear H
         obtain ⟨hcz26_0, hcz26_1⟩ := bc2 BK328.out
         obtain ⟨hfz26_0, hfz26_1⟩ := bf2 BK328.out
         go_wp2
         go_roundg k2
         case measure => have := HK1.out; have := HK2.out; omega
         case rel => exact ⟨(x8_2), (wrap64 (x9_1 + 1)), rsz, H', ⟨by have := HK1.out; have := HK2.out; omega⟩, ⟨by (with_reducible repeat (first | apply Kd.N_alloc | apply Kd.N_drewN | apply Kd.N_drew)); exact HO_6.out⟩, ⟨by (with_reducible repeat (first | apply Kd.R_alloc | apply Kd.R_drewN | apply Kd.R_drew)); exact HO_8.out⟩, ⟨blkz⟩, ⟨bel⟩⟩
     ·
      rw [if_neg c12] at H
      have c12b0 : decide (x9_1 < (t329.length : Int)) = false := decide_eq_false c12
      clear c12
      simp only [Option.some.injEq, Prod.mk.injEq] at H
      obtain ⟨rfl, rfl⟩ := H
      obtain ⟨Ao27, co27, eo27⟩ := Kd.N_slice HO_6.out
      subst eo27
      go_wp2
      go_ret2
      exact ⟨_, ezz, by (with_reducible repeat (first | apply Kd.R_alloc | apply Kd.R_drewN | apply Kd.R_drew)); exact HO_8.out, bel⟩
  ·
   rw [if_neg c5] at H
   exact absurd H (by simp)
 ·
  rw [if_neg c4] at H
  have c4b0 : (t332 == 0) = false := beq_eq_false_iff_ne.mpr c4
  have c4b1 : (t332 != 0) = true := bne_iff_ne.mpr c4
  simp only [Option.some.injEq, Prod.mk.injEq] at H
  obtain ⟨rfl, rfl⟩ := H
  go_enter Try.func36, Try.ntmps36
  go_wp2_with (first | ((with_reducible refine gate_dst (N := 2) rfl ?_); refine box_event ?hg (N := 2) ?hd (cs := #[.int .i64 a0_0, .slice A0_1 l0_1.length c0_1]) (t := 24) ?hr ?_; (case hd => rfl); (case hg => rfl); (case hr => first | (go_simp; done) | (go_simp; rfl)); intro gb328 hg w28 hbox hb; have BK328 := Aside0.mk (hbox); have GW328 := bsz (w := w) hg; have GE328 := GW328; replace HB := Aside0.mk (below_step bel hb); clear hb hbox hg; obtain ⟨hcz29_0, hcz29_1⟩ := bc2 BK328.out) | ((with_reducible refine gate_callee (f := 33) rfl ?_); refine goesL_ (some 14) rfl rfl Try.func33 (by kernel_rfl) rfl #[.agg #[.int .i64 a0_0, .slice A0_1 l0_1.length c0_1], .slice A1 l1.length c1] rfl mapz ?_; (with_reducible refine (dropperref06_Reach.calls k a0_0 _ _ l0_1 (fun k_ => k_ < w.heap.size) _ _ l1 t329 t332 _ (cbz HR0_1) HC0_1.out ?side3 A3.out).mono ?_); (case side3 => exact Kd.V_mk HC1.out (Kd.F_below (Kd.C_F (Kd.heap_int .i64) HR1.out) bel)); rintro e w30 ⟨v330, rfl, ho0, hb⟩; refine ⟨_, rfl, ?_⟩; have HO331 := Aside0.mk (Kd.N_lower (Kd.N_mono (ok' := fun k_ => k_ ≠ gb328) ho0 (fun k_ hk_ => Or.elim hk_ (fun hs_ => fun e_ => Nat.not_le.2 hs_ (by rw [e_]; exact GW328.out)) (fun hn_ => (Kd.freshB (g := gb328) (o := .cells #[.int .i64 a0_0, .slice A0_1 l0_1.length c0_1] 24 (0, 0)) blkz k_ hn_)))) (below_size bel)); replace BK328 := Aside0.mk (blk_below (g := gb328) blkz hb); replace HB := Aside0.mk (below_step bel hb); (try clear hb); (try clear hb2); (try clear hk); (try clear hi); (try clear ho0)))
  go_ret2
  exact ⟨_, ezz, by first | exact Kd.R_nil _ _ _ _ _ | exact Kd.N_nil _ _ _ _ _ | exact Kd.V_nil _ _ _ _ _ | exact Kd.Q_nil _ _ _ _ _ | exact Kd.S_nil _ _ _ _ _, bel⟩

/-! ### dropperlaw06_KeyReaches: function 5 -/
def dropperlaw06_KeyReaches.j0 : Nat → List Int → Bool → Int → List (S64) → Option (Bool)
 | 0, _, _, _, _ => none
 | k + 1, x1, x38, x344000, x344001 => if x38 = true then (none) else ((key_Stuck.f k x344000 x344001 x1).bind fun bt358 => ((dropperref06_Stuck.f k x344000 x344001 x1).bind fun bt362 => ((key_Greatest.f x344000 x344001 x1).bind fun bt366 => ((dropperref06_Greatest.f k x344000 x344001 x1).bind fun bt370 => (if bt358.2 = bt362.2 then ((dropperlaw06_sameLists.f k bt358.1 bt362.1).bind fun t374 => (if t374 = true then (if bt366.2 = bt370.2 then ((dropperlaw06_SameInts.f k bt366.1 bt370.1).bind fun t375 => (if t375 = true then ((dropperlaw06_Awake.f k).bind fun t376 => (some t376)) else (none))) else (none)) else (none))) else (none))))))
def dropperlaw06_KeyReaches.f (k : Nat) (a0_0 : Int) (l0_1 : List (S64)) (l1 : List Int) : Option (Bool) := (dropperlaw06_Large.f k a0_0 l0_1 (([l1] : List (List Int)))).bind fun t347 => (if t347 = true then ((dropperlaw06_Awake.f k).bind fun t348 => (some t348)) else ((key_Reach.f k a0_0 l0_1 l1).bind fun bt349 => ((dropperref06_Reach.f k a0_0 l0_1 l1).bind fun bt353 => (if bt349.2 = bt353.2 then ((dropperlaw06_sameLists.f k bt349.1 bt353.1).bind fun t357 => (dropperlaw06_KeyReaches.j0 k l1 (!t357) a0_0 l0_1)) else (dropperlaw06_KeyReaches.j0 k l1 true a0_0 l0_1)))))
set_option maxHeartbeats 8000000 in
set_option maxRecDepth 100000 in
theorem dropperlaw06_KeyReaches.calls (k : Nat) (a0_0 : Int) (A0_1 : Option Addr) (c0_1 : Nat) (l0_1 : List (S64)) (P1_ : Nat → Prop) (A1 : Option Addr) (c1 : Nat) (l1 : List Int) (r : Bool) (w : World) (hr0_1 : Kd.C k64 w A0_1 l0_1.length l0_1) (hc0_1 : l0_1.length ≤ c0_1) (hs1 : Kd.V (Kd.int .i64) 3 w w.heap.size (fun k_ => P1_ k_) (.slice A1 l1.length c1) l1) (h : dropperlaw06_KeyReaches.f k a0_0 l0_1 l1 = some r) :
  Calls Try.prog 5 #[.agg #[.int .i64 a0_0, .slice A0_1 l0_1.length c0_1], .slice A1 l1.length c1] w fun e w' => e = .returned (.bool r) ∧ Below w.heap.size w w' := by
 have hu24 := Try.underlying24
 have HR0_1 := Aside0.mk hr0_1
 have HC0_1 := Aside0.mk hc0_1
 clear hr0_1 hc0_1
 have HO1 := Aside0.mk (show Kd.V (Kd.int .i64) 3 w w.heap.size (fun k_ => (P1_ k_ ∨ w.heap.size ≤ k_)) (.slice A1 l1.length c1) l1 from Kd.V_mono hs1 (fun k_ hk => .inl hk))
 have HB := Aside0.mk (Below.refl w.heap.size w)
 have H : ((dropperlaw06_Large.f k a0_0 l0_1 (([l1] : List (List Int)))).bind fun t347 => (if t347 = true then ((dropperlaw06_Awake.f k).bind fun t348 => (some t348)) else ((key_Reach.f k a0_0 l0_1 l1).bind fun bt349 => ((dropperref06_Reach.f k a0_0 l0_1 l1).bind fun bt353 => (if bt349.2 = bt353.2 then ((dropperlaw06_sameLists.f k bt349.1 bt353.1).bind fun t357 => (dropperlaw06_KeyReaches.j0 k l1 (!t357) a0_0 l0_1)) else (dropperlaw06_KeyReaches.j0 k l1 true a0_0 l0_1)))))) = some r := h
 clear h
 obtain ⟨y344, hy344⟩ : ∃ y_ : List (List Int), y_ = (([l1] : List (List Int))) := ⟨_, rfl⟩
 replace H : ((dropperlaw06_Large.f k a0_0 l0_1 y344).bind fun t347 => (if t347 = true then ((dropperlaw06_Awake.f k).bind fun t348 => (some t348)) else ((key_Reach.f k a0_0 l0_1 l1).bind fun bt349 => ((dropperref06_Reach.f k a0_0 l0_1 l1).bind fun bt353 => (if bt349.2 = bt353.2 then ((dropperlaw06_sameLists.f k bt349.1 bt353.1).bind fun t357 => (dropperlaw06_KeyReaches.j0 k l1 (!t357) a0_0 l0_1)) else (dropperlaw06_KeyReaches.j0 k l1 true a0_0 l0_1)))))) = some r := by first | (rw [hy344]; with_reducible exact H) | (have H2_ := (Option.bind_some _ _).symm.trans H; rw [hy344]; with_reducible exact H2_) | (have H2_ := (Option.bind_some _ _).symm.trans H; with_reducible exact H2_) | with_reducible exact H | (rw [hy344]; exact H) | exact H
 have Ny344 := Aside0.mk hy344
 clear hy344
 replace H := Option.bind_eq_some_iff.mp H
 obtain ⟨t347, A30, H⟩ := H
 try dsimp only at H
 have A3 := Aside0.mk A30
 clear A30
 by_cases c4 : t347 = true
 ·
  subst c4
  rw [if_pos rfl] at H
  replace H := Option.bind_eq_some_iff.mp H
  obtain ⟨t348, A50, H⟩ := H
  try dsimp only at H
  have A5 := Aside0.mk A50
  clear A50
  obtain rfl := Option.some.inj H
  go_enter Try.func5, Try.ntmps5
  go_wp2_with (first | ((with_reducible refine gate_dst (N := 2) rfl ?_); refine box_event ?hg (N := 2) ?hd (cs := #[.int .i64 a0_0, .slice A0_1 l0_1.length c0_1]) (t := 24) ?hr ?_; (case hd => rfl); (case hg => rfl); (case hr => first | (go_simp; done) | (go_simp; rfl)); intro gb343 hg w6 hbox hb; have BK343 := Aside0.mk (hbox); have GW343 := bsz (w := w) hg; have GE343 := GW343; replace HO1 := Aside0.mk (Kd.V_below (Kd.V_elderB (by (with_reducible repeat (first | apply Kd.V_alloc | apply Kd.V_drewN | apply Kd.V_drew)); exact HO1.out) gb343 (Nat.le_of_eq hg.symm)) hb); replace HB := Aside0.mk (below_step bel hb); clear hb hbox hg; obtain ⟨hcz7_0, hcz7_1⟩ := bc2 BK343.out) | ((with_reducible refine gate_dst (N := 15) rfl ?_); refine Kd.N_lit (Kd.slice 3 (Kd.int .i64)) _ 25 ?hg (N' := 15) ?hd (xs := ([l1] : List (List Int))) (inner := [.slice A1 l1.length c1]) (ok := (fun k_ => (P1_ k_ ∨ w.heap.size ≤ k_) ∧ k_ ≠ gb343)) (okp := (fun k_ => (P1_ k_ ∨ w.heap.size ≤ k_) ∧ k_ ≠ gb343)) ?hr ?hp (fun _ hk => hk) ((show ∀ k_, w6.heap.size ≤ k_ → (fun k_ => (P1_ k_ ∨ w.heap.size ≤ k_) ∧ k_ ≠ gb343) k_ from fun k_ hk => ⟨(.inr (Nat.le_trans (below_size bel) hk)), Kd.freshB (g := gb343) (o := .cells #[.int .i64 a0_0, .slice A0_1 l0_1.length c0_1] 24 (0, 0)) blkz k_ hk⟩) _ (Nat.le_refl _)) (Below.refl _ _) (Nat.le_refl _) (by simp) ?_; (case hd => rfl); (case hg => rfl); (case hr => first | (go_simp; done) | (go_simp; rfl)); (case hp => exact (Reps.one (show Kd.FK (Kd.slice 3 (Kd.int .i64)) _ _ l1 [.slice A1 l1.length c1] from (Kd.FK_slice_mk (Kd.V_reads' (Kd.V_mono (ok' := (fun k_ => (P1_ k_ ∨ w.heap.size ≤ k_) ∧ k_ ≠ gb343)) (HO1.out) (fun k_ hk => ⟨hk.1, hk.2⟩))).2.1 (Kd.V_F (Kd.V_mono (ok' := (fun k_ => (P1_ k_ ∨ w.heap.size ≤ k_) ∧ k_ ≠ gb343)) (HO1.out) (fun k_ hk => ⟨hk.1, hk.2⟩))))) (Reps.none _ _))); intro v345 w8 ho9 hb hg_ hnew_; clear hg_ hnew_; (first | rw [← Ny344.out] at ho9 | (simp only [Int.reduceToNat] at ho9; rw [← Ny344.out] at ho9)); have HO346 := Aside0.mk (Kd.N_lower ho9 (below_size bel)); replace HO1 := Aside0.mk (Kd.V_elder' (by (with_reducible repeat (first | apply Kd.V_alloc | apply Kd.V_drewN | apply Kd.V_drew)); exact HO1.out) (by first | exact Kd.N_base ho9 | exact Kd.S_base ho9) hb); replace BK343 := Aside0.mk (blk_below (g := gb343) blkz hb); replace HB := Aside0.mk (below_step bel hb); clear hb ho9; obtain ⟨Ao10, co10, eo10⟩ := Kd.N_slice HO346.out; subst eo10) | ((with_reducible refine gate_callee (f := 29) rfl ?_); refine goesL_ (some 16) rfl rfl Try.func29 (by kernel_rfl) rfl #[.agg #[.int .i64 a0_0, .slice A0_1 l0_1.length c0_1], .slice Ao10 y344.length co10] rfl mapz ?_; (with_reducible refine (dropperlaw06_Large.calls k a0_0 _ _ l0_1 _ _ y344 true _ (cbz HR0_1) HC0_1.out ?side3 ?side4 A3.out).mono ?_); (case side3 => repeat (first | exact (Kd.N_reads' HO346.out).2.2 | (with_reducible refine Kd.C_alloc ?_ _) | (with_reducible refine Kd.C_drewN ?_ _) | (with_reducible refine Kd.C_drew ?_))); (case side4 => exact (Kd.N_reads' HO346.out).2.1); rintro e w11 ⟨rfl, hb⟩; refine ⟨_, rfl, ?_⟩; replace HO1 := Aside0.mk (Kd.V_below (by (with_reducible repeat (first | apply Kd.V_alloc | apply Kd.V_drewN | apply Kd.V_drew)); exact HO1.out) hb); replace HO346 := Aside0.mk (Kd.N_below (by (with_reducible repeat (first | apply Kd.N_alloc | apply Kd.N_drewN | apply Kd.N_drew)); exact HO346.out) hb); replace BK343 := Aside0.mk (blk_below (g := gb343) blkz hb); replace HB := Aside0.mk (below_step bel hb); clear hb) | ((with_reducible refine gate_callee (f := 15) rfl ?_); refine goesL_ (some 17) rfl rfl Try.func15 (by kernel_rfl) rfl #[] rfl mapz ?_; (with_reducible refine (dropperlaw06_Awake.calls k  t348 _ A5.out).mono ?_); rintro e w12 ⟨rfl, hb⟩; refine ⟨_, rfl, ?_⟩; replace HO1 := Aside0.mk (Kd.V_below (by (with_reducible repeat (first | apply Kd.V_alloc | apply Kd.V_drewN | apply Kd.V_drew)); exact HO1.out) hb); replace HO346 := Aside0.mk (Kd.N_below (by (with_reducible repeat (first | apply Kd.N_alloc | apply Kd.N_drewN | apply Kd.N_drew)); exact HO346.out) hb); replace BK343 := Aside0.mk (blk_below (g := gb343) blkz hb); replace HB := Aside0.mk (below_step bel hb); clear hb))
  go_ret
  exact ⟨ezz, bel⟩
 ·
  replace c4 := Bool.eq_false_iff.mpr c4
  subst c4
  rw [if_neg (show ¬ (false = true) by decide)] at H
  replace H := Option.bind_eq_some_iff.mp H
  obtain ⟨⟨t349, t352⟩, A130, H⟩ := H
  try dsimp only at H
  have A13 := Aside0.mk A130
  clear A130
  replace H := Option.bind_eq_some_iff.mp H
  obtain ⟨⟨t353, t356⟩, A140, H⟩ := H
  try dsimp only at H
  have A14 := Aside0.mk A140
  clear A140
  have HC15 := Aside0.mk H
  clear H
  go_enter Try.func5, Try.ntmps5
  go_upto_region 5 with (first | ((with_reducible refine gate_dst (N := 2) rfl ?_); refine box_event ?hg (N := 2) ?hd (cs := #[.int .i64 a0_0, .slice A0_1 l0_1.length c0_1]) (t := 24) ?hr ?_; (case hd => rfl); (case hg => rfl); (case hr => first | (go_simp; done) | (go_simp; rfl)); intro gb343 hg w16 hbox hb; have BK343 := Aside0.mk (hbox); have GW343 := bsz (w := w) hg; have GE343 := GW343; replace HO1 := Aside0.mk (Kd.V_below (Kd.V_elderB (by (with_reducible repeat (first | apply Kd.V_alloc | apply Kd.V_drewN | apply Kd.V_drew)); exact HO1.out) gb343 (Nat.le_of_eq hg.symm)) hb); replace HB := Aside0.mk (below_step bel hb); clear hb hbox hg; obtain ⟨hcz17_0, hcz17_1⟩ := bc2 BK343.out) | ((with_reducible refine gate_dst (N := 15) rfl ?_); refine Kd.N_lit (Kd.slice 3 (Kd.int .i64)) _ 25 ?hg (N' := 15) ?hd (xs := ([l1] : List (List Int))) (inner := [.slice A1 l1.length c1]) (ok := (fun k_ => (P1_ k_ ∨ w.heap.size ≤ k_) ∧ k_ ≠ gb343)) (okp := (fun k_ => (P1_ k_ ∨ w.heap.size ≤ k_) ∧ k_ ≠ gb343)) ?hr ?hp (fun _ hk => hk) ((show ∀ k_, w16.heap.size ≤ k_ → (fun k_ => (P1_ k_ ∨ w.heap.size ≤ k_) ∧ k_ ≠ gb343) k_ from fun k_ hk => ⟨(.inr (Nat.le_trans (below_size bel) hk)), Kd.freshB (g := gb343) (o := .cells #[.int .i64 a0_0, .slice A0_1 l0_1.length c0_1] 24 (0, 0)) blkz k_ hk⟩) _ (Nat.le_refl _)) (Below.refl _ _) (Nat.le_refl _) (by simp) ?_; (case hd => rfl); (case hg => rfl); (case hr => first | (go_simp; done) | (go_simp; rfl)); (case hp => exact (Reps.one (show Kd.FK (Kd.slice 3 (Kd.int .i64)) _ _ l1 [.slice A1 l1.length c1] from (Kd.FK_slice_mk (Kd.V_reads' (Kd.V_mono (ok' := (fun k_ => (P1_ k_ ∨ w.heap.size ≤ k_) ∧ k_ ≠ gb343)) (HO1.out) (fun k_ hk => ⟨hk.1, hk.2⟩))).2.1 (Kd.V_F (Kd.V_mono (ok' := (fun k_ => (P1_ k_ ∨ w.heap.size ≤ k_) ∧ k_ ≠ gb343)) (HO1.out) (fun k_ hk => ⟨hk.1, hk.2⟩))))) (Reps.none _ _))); intro v345 w18 ho19 hb hg_ hnew_; clear hg_ hnew_; (first | rw [← Ny344.out] at ho19 | (simp only [Int.reduceToNat] at ho19; rw [← Ny344.out] at ho19)); have HO346 := Aside0.mk (Kd.N_lower ho19 (below_size bel)); replace HO1 := Aside0.mk (Kd.V_elder' (by (with_reducible repeat (first | apply Kd.V_alloc | apply Kd.V_drewN | apply Kd.V_drew)); exact HO1.out) (by first | exact Kd.N_base ho19 | exact Kd.S_base ho19) hb); replace BK343 := Aside0.mk (blk_below (g := gb343) blkz hb); replace HB := Aside0.mk (below_step bel hb); clear hb ho19; obtain ⟨Ao20, co20, eo20⟩ := Kd.N_slice HO346.out; subst eo20) | ((with_reducible refine gate_callee (f := 29) rfl ?_); refine goesL_ (some 16) rfl rfl Try.func29 (by kernel_rfl) rfl #[.agg #[.int .i64 a0_0, .slice A0_1 l0_1.length c0_1], .slice Ao20 y344.length co20] rfl mapz ?_; (with_reducible refine (dropperlaw06_Large.calls k a0_0 _ _ l0_1 _ _ y344 false _ (cbz HR0_1) HC0_1.out ?side3 ?side4 A3.out).mono ?_); (case side3 => repeat (first | exact (Kd.N_reads' HO346.out).2.2 | (with_reducible refine Kd.C_alloc ?_ _) | (with_reducible refine Kd.C_drewN ?_ _) | (with_reducible refine Kd.C_drew ?_))); (case side4 => exact (Kd.N_reads' HO346.out).2.1); rintro e w21 ⟨rfl, hb⟩; refine ⟨_, rfl, ?_⟩; replace HO1 := Aside0.mk (Kd.V_below (by (with_reducible repeat (first | apply Kd.V_alloc | apply Kd.V_drewN | apply Kd.V_drew)); exact HO1.out) hb); replace HO346 := Aside0.mk (Kd.N_below (by (with_reducible repeat (first | apply Kd.N_alloc | apply Kd.N_drewN | apply Kd.N_drew)); exact HO346.out) hb); replace BK343 := Aside0.mk (blk_below (g := gb343) blkz hb); replace HB := Aside0.mk (below_step bel hb); clear hb; obtain ⟨hcz22_0, hcz22_1⟩ := bc2 BK343.out) | ((with_reducible refine gate_callee (f := 16) rfl ?_); refine goesL_ (some 21) rfl rfl Try.func16 (by kernel_rfl) rfl #[.agg #[.int .i64 a0_0, .slice A0_1 l0_1.length c0_1], .slice A1 l1.length c1] rfl mapz ?_; (with_reducible refine (key_Reach.calls k a0_0 _ _ l0_1 _ _ l1 t349 t352 _ (cbz HR0_1) HC0_1.out ?side3 ?side4 A13.out).mono ?_); (case side3 => repeat (first | exact (Kd.V_reads' HO1.out).2.2 | (with_reducible refine Kd.C_alloc ?_ _) | (with_reducible refine Kd.C_drewN ?_ _) | (with_reducible refine Kd.C_drew ?_))); (case side4 => exact (Kd.V_reads' HO1.out).2.1); rintro e w23 ⟨v350, rfl, ho0, hb⟩; refine ⟨_, rfl, ?_⟩; have HO351 := Aside0.mk (Kd.N_lower (Kd.N_mono (ok' := fun k_ => (P1_ k_ ∨ w.heap.size ≤ k_) ∧ some k_ ≠ (.slice Ao20 y344.length co20 : Value).ownBlock ∧ k_ ≠ gb343) (Kd.S_N (Kd.S_bound ho0)) (fun k_ hk_ => ⟨(.inr (Nat.le_trans (below_size bel) hk_.2.1)), (Kd.fresh' (Kd.N_lt (by (with_reducible repeat (first | apply Kd.N_alloc | apply Kd.N_drewN | apply Kd.N_drew)); exact HO346.out)) k_ hk_.2.1), (Kd.freshB (g := gb343) (o := .cells #[.int .i64 a0_0, .slice A0_1 l0_1.length c0_1] 24 (0, 0)) blkz k_ hk_.2.1)⟩)) (below_size bel)); replace HO1 := Aside0.mk (Kd.V_elder' (by (with_reducible repeat (first | apply Kd.V_alloc | apply Kd.V_drewN | apply Kd.V_drew)); exact HO1.out) (by first | exact Kd.N_base ho0 | exact Kd.S_base ho0) hb); replace HO346 := Aside0.mk (Kd.N_elder' (by (with_reducible repeat (first | apply Kd.N_alloc | apply Kd.N_drewN | apply Kd.N_drew)); exact HO346.out) (by first | exact Kd.N_base ho0 | exact Kd.S_base ho0) hb); replace BK343 := Aside0.mk (blk_below (g := gb343) blkz hb); replace HB := Aside0.mk (below_step bel hb); (try clear hb); (try clear hb2); (try clear hk); (try clear hi); (try clear ho0); obtain ⟨hcz24_0, hcz24_1⟩ := bc2 BK343.out) | ((with_reducible refine gate_callee (f := 33) rfl ?_); refine goesL_ (some 27) rfl rfl Try.func33 (by kernel_rfl) rfl #[.agg #[.int .i64 a0_0, .slice A0_1 l0_1.length c0_1], .slice A1 l1.length c1] rfl mapz ?_; (with_reducible refine (dropperref06_Reach.calls k a0_0 _ _ l0_1 (fun k_ => ((((P1_ k_ ∨ w.heap.size ≤ k_) ∧ k_ ≠ gb343) ∧ some k_ ≠ (.slice Ao20 y344.length co20 : Value).ownBlock) ∧ some k_ ≠ (v350 : Value).ownBlock)) _ _ l1 t353 t356 _ (cbz HR0_1) HC0_1.out HO1.out A14.out).mono ?_); rintro e w25 ⟨v354, rfl, ho0, hb⟩; refine ⟨_, rfl, ?_⟩; have HO355 := Aside0.mk (Kd.N_lower (Kd.N_mono (ok' := fun k_ => (P1_ k_ ∨ w.heap.size ≤ k_) ∧ some k_ ≠ (.slice Ao20 y344.length co20 : Value).ownBlock ∧ some k_ ≠ (v350 : Value).ownBlock ∧ k_ ≠ gb343) ho0 (fun k_ hk_ => ⟨Or.elim hk_ (fun hs_ => hs_.1.1.1) (fun hn_ => (.inr (Nat.le_trans (below_size bel) hn_))), Or.elim hk_ (fun hs_ => hs_.1.2) (fun hn_ => (Kd.fresh' (Kd.N_lt (by (with_reducible repeat (first | apply Kd.N_alloc | apply Kd.N_drewN | apply Kd.N_drew)); exact HO346.out)) k_ hn_)), Or.elim hk_ (fun hs_ => hs_.2) (fun hn_ => (Kd.fresh' (Kd.N_lt (by (with_reducible repeat (first | apply Kd.N_alloc | apply Kd.N_drewN | apply Kd.N_drew)); exact HO351.out)) k_ hn_)), Or.elim hk_ (fun hs_ => hs_.1.1.2) (fun hn_ => (Kd.freshB (g := gb343) (o := .cells #[.int .i64 a0_0, .slice A0_1 l0_1.length c0_1] 24 (0, 0)) blkz k_ hn_))⟩)) (below_size bel)); replace HO1 := Aside0.mk (Kd.V_elder' (by (with_reducible repeat (first | apply Kd.V_alloc | apply Kd.V_drewN | apply Kd.V_drew)); exact HO1.out) (by first | exact Kd.N_base ho0 | exact Kd.S_base ho0) hb); replace HO346 := Aside0.mk (Kd.N_elder' (by (with_reducible repeat (first | apply Kd.N_alloc | apply Kd.N_drewN | apply Kd.N_drew)); exact HO346.out) (by first | exact Kd.N_base ho0 | exact Kd.S_base ho0) hb); replace HO351 := Aside0.mk (Kd.N_elder' (by (with_reducible repeat (first | apply Kd.N_alloc | apply Kd.N_drewN | apply Kd.N_drew)); exact HO351.out) (by first | exact Kd.N_base ho0 | exact Kd.S_base ho0) hb); replace BK343 := Aside0.mk (blk_below (g := gb343) blkz hb); replace HB := Aside0.mk (below_step bel hb); (try clear hb); (try clear hb2); (try clear hk); (try clear hi); (try clear ho0)))
  (try simp only [Act.put, List.setIfInBounds_toArray, List.set_cons_zero, List.set_cons_succ])
  go_cut [38] (fun v38 wc => ∃ (kq : Nat) (x38_14 : Bool), v38 = .bool x38_14 ∧ Aside0 (dropperlaw06_KeyReaches.j0 kq l1 x38_14 a0_0 l0_1 = some r) ∧ Aside0 (kq ≤ k) ∧ Aside0 (Kd.V (Kd.int .i64) 3 wc w.heap.size (fun k_ => (P1_ k_ ∨ w.heap.size ≤ k_) ∧ k_ ≠ gb343) (.slice A1 l1.length c1) l1) ∧ Aside0 (wc.heap[gb343]? = some (.cells #[.int .i64 a0_0, (.slice A0_1 l0_1.length c0_1)] 24 (0, 0))) ∧ Aside0 (Below w.heap.size w wc))
  case first =>
   have H := HC15.out
   clear HC15
   by_cases c26 : t352 = t356
   ·
    rw [if_pos c26] at H
    have c26b0 : (t352 == t356) = true := beq_iff_eq.mpr c26
    have c26b1 : (t352 != t356) = false := bne_eq_false_iff_eq.mpr c26
    clear c26
    (first | rw [c26b0] | (simp only [i64_w, i32_w]; rw [c26b0]) | skip)
    replace H := Option.bind_eq_some_iff.mp H
    obtain ⟨t357, A270, H⟩ := H
    try dsimp only at H
    have A27 := Aside0.mk A270
    clear A270
    have H' := Aside0.mk H
    clear H
    obtain ⟨Ao28, co28, eo28⟩ := Kd.N_slice HO351.out
    subst eo28
    obtain ⟨Ao29, co29, eo29⟩ := Kd.N_slice HO355.out
    subst eo29
    go_wp2_with (first | (go_at_call 34; (with_reducible refine (dropperlaw06_sameLists.calls k _ _ t349 _ _ t353 t357 _ ?side1 ?side2 ?side3 ?side4 A27.out).mono ?_); (case side1 => repeat (first | exact (Kd.N_reads' HO351.out).2.2 | (with_reducible refine Kd.C_alloc ?_ _) | (with_reducible refine Kd.C_drewN ?_ _) | (with_reducible refine Kd.C_drew ?_))); (case side2 => exact (Kd.N_reads' HO351.out).2.1); (case side3 => repeat (first | exact (Kd.N_reads' HO355.out).2.2 | (with_reducible refine Kd.C_alloc ?_ _) | (with_reducible refine Kd.C_drewN ?_ _) | (with_reducible refine Kd.C_drew ?_))); (case side4 => exact (Kd.N_reads' HO355.out).2.1); rintro e w' ⟨rfl, ⟨nd, rfl⟩⟩))
    go_meet
    case rel => exact ⟨_, (!t357), rsz, H', ⟨by first | omega | exact Nat.le_refl _⟩, ⟨by (with_reducible repeat (first | apply Kd.V_alloc | apply Kd.V_drewN | apply Kd.V_drew)); exact Kd.V_mono HO1.out (fun _ hk => ⟨hk.1.1.1.1, hk.1.1.1.2⟩)⟩, ⟨blkz⟩, ⟨bel⟩⟩
   ·
    rw [if_neg c26] at H
    have c26b0 : (t352 == t356) = false := beq_eq_false_iff_ne.mpr c26
    have c26b1 : (t352 != t356) = true := bne_iff_ne.mpr c26
    (first | rw [c26b0] | (simp only [i64_w, i32_w]; rw [c26b0]) | skip)
    have H' := Aside0.mk H
    clear H
    go_wp2
    go_meet
    case rel => exact ⟨_, (true), rsz, H', ⟨by first | omega | exact Nat.le_refl _⟩, ⟨by (with_reducible repeat (first | apply Kd.V_alloc | apply Kd.V_drewN | apply Kd.V_drew)); exact Kd.V_mono HO1.out (fun _ hk => ⟨hk.1.1.1.1, hk.1.1.1.2⟩)⟩, ⟨blkz⟩, ⟨bel⟩⟩
  case rest =>
   clear HC15
   (try clear c1); (try clear c2); (try clear p2); (try clear c3); (try clear c4); (try clear c5); (try clear c15); (try clear c16); (try clear c26); (try clear c26b0); (try clear c26b1); (try clear c29); (try clear hcz17_0); (try clear hcz17_1); (try clear hcz22_0); (try clear hcz22_1); (try clear hcz24_0); (try clear hcz24_1); (try clear hcz7_0); (try clear hcz7_1); (try clear hfz17_0); (try clear hfz17_1); (try clear hfz22_0); (try clear hfz22_1); (try clear hfz24_0); (try clear hfz24_1); (try clear hfz7_0); (try clear hfz7_1)
   obtain ⟨kq, x38_14, rfl, HA, HJ14, HO_1, BK343, HB⟩ := hcut
   cases kq with
   | zero => exact absurd HA.out (by simp [dropperlaw06_KeyReaches.j0])
   | succ kj14 =>
    have H := HA.out
    clear HA
    simp only [dropperlaw06_KeyReaches.j0] at H
    by_cases c30 : x38_14 = true
    ·
     subst c30
     rw [if_pos rfl] at H
     exact absurd H (by simp)
    ·
     replace c30 := Bool.eq_false_iff.mpr c30
     subst c30
     rw [if_neg (show ¬ (false = true) by decide)] at H
     replace H := Option.bind_eq_some_iff.mp H
     obtain ⟨⟨t358, t361⟩, A310, H⟩ := H
     try dsimp only at H
     have A31 := Aside0.mk A310
     clear A310
     replace H := Option.bind_eq_some_iff.mp H
     obtain ⟨⟨t362, t365⟩, A320, H⟩ := H
     try dsimp only at H
     have A32 := Aside0.mk A320
     clear A320
     replace H := Option.bind_eq_some_iff.mp H
     obtain ⟨⟨t366, t369⟩, A330, H⟩ := H
     try dsimp only at H
     have A33 := Aside0.mk A330
     clear A330
     replace H := Option.bind_eq_some_iff.mp H
     obtain ⟨⟨t370, t373⟩, A340, H⟩ := H
     try dsimp only at H
     have A34 := Aside0.mk A340
     clear A340
     by_cases c35 : t361 = t365
     ·
      rw [if_pos c35] at H
      have c35b0 : (t361 == t365) = true := beq_iff_eq.mpr c35
      have c35b1 : (t361 != t365) = false := bne_eq_false_iff_eq.mpr c35
      clear c35
      replace H := Option.bind_eq_some_iff.mp H
      obtain ⟨t374, A360, H⟩ := H
      try dsimp only at H
      have A36 := Aside0.mk A360
      clear A360
      by_cases c37 : t374 = true
      ·
       subst c37
       rw [if_pos rfl] at H
       by_cases c38 : t369 = t373
       ·
        rw [if_pos c38] at H
        have c38b0 : (t369 == t373) = true := beq_iff_eq.mpr c38
        have c38b1 : (t369 != t373) = false := bne_eq_false_iff_eq.mpr c38
        clear c38
        replace H := Option.bind_eq_some_iff.mp H
        obtain ⟨t375, A390, H⟩ := H
        try dsimp only at H
        have A39 := Aside0.mk A390
        clear A390
        by_cases c40 : t375 = true
        ·
         subst c40
         rw [if_pos rfl] at H
         replace H := Option.bind_eq_some_iff.mp H
         obtain ⟨t376, A410, H⟩ := H
         try dsimp only at H
         have A41 := Aside0.mk A410
         clear A410
         obtain rfl := Option.some.inj H
         obtain ⟨hcz42_0, hcz42_1⟩ := bc2 BK343.out
         obtain ⟨hfz42_0, hfz42_1⟩ := bf2 BK343.out
         go_wp2_with (first | ((with_reducible refine gate_callee (f := 18) rfl ?_); refine goesL_ (some 42) rfl rfl Try.func18 (by kernel_rfl) rfl #[.agg #[.int .i64 a0_0, .slice A0_1 l0_1.length c0_1], .slice A1 l1.length c1] rfl mapz ?_; (with_reducible refine (key_Stuck.calls kj14 a0_0 _ _ l0_1 _ _ l1 t358 t361 _ (cbz HR0_1) HC0_1.out ?side3 ?side4 A31.out).mono ?_); (case side3 => repeat (first | exact (Kd.V_reads' HO_1.out).2.2 | (with_reducible refine Kd.C_alloc ?_ _) | (with_reducible refine Kd.C_drewN ?_ _) | (with_reducible refine Kd.C_drew ?_))); (case side4 => exact (Kd.V_reads' HO_1.out).2.1); rintro e w43 ⟨v359, rfl, ho0, hb⟩; refine ⟨_, rfl, ?_⟩; have HO360 := Aside0.mk (Kd.N_lower (Kd.N_mono (ok' := fun k_ => (P1_ k_ ∨ w.heap.size ≤ k_) ∧ k_ ≠ gb343) (Kd.S_N (Kd.S_bound ho0)) (fun k_ hk_ => ⟨(.inr (Nat.le_trans (below_size bel) hk_.2.1)), (Kd.freshB (g := gb343) (o := .cells #[.int .i64 a0_0, .slice A0_1 l0_1.length c0_1] 24 (0, 0)) blkz k_ hk_.2.1)⟩)) (below_size bel)); replace HO_1 := Aside0.mk (Kd.V_elder' (by (with_reducible repeat (first | apply Kd.V_alloc | apply Kd.V_drewN | apply Kd.V_drew)); exact HO_1.out) (by first | exact Kd.N_base ho0 | exact Kd.S_base ho0) hb); replace BK343 := Aside0.mk (blk_below (g := gb343) blkz hb); replace HB := Aside0.mk (below_step bel hb); (try clear hb); (try clear hb2); (try clear hk); (try clear hi); (try clear ho0); obtain ⟨hcz44_0, hcz44_1⟩ := bc2 BK343.out) | ((with_reducible refine gate_callee (f := 35) rfl ?_); refine goesL_ (some 48) rfl rfl Try.func35 (by kernel_rfl) rfl #[.agg #[.int .i64 a0_0, .slice A0_1 l0_1.length c0_1], .slice A1 l1.length c1] rfl mapz ?_; (with_reducible refine (dropperref06_Stuck.calls kj14 a0_0 _ _ l0_1 (fun k_ => (((P1_ k_ ∨ w.heap.size ≤ k_) ∧ k_ ≠ gb343) ∧ some k_ ≠ (v359 : Value).ownBlock)) _ _ l1 t362 t365 _ (cbz HR0_1) HC0_1.out HO_1.out A32.out).mono ?_); rintro e w45 ⟨v363, rfl, ho0, hb⟩; refine ⟨_, rfl, ?_⟩; have HO364 := Aside0.mk (Kd.N_lower (Kd.N_mono (ok' := fun k_ => (P1_ k_ ∨ w.heap.size ≤ k_) ∧ some k_ ≠ (v359 : Value).ownBlock ∧ k_ ≠ gb343) ho0 (fun k_ hk_ => ⟨Or.elim hk_ (fun hs_ => hs_.1.1) (fun hn_ => (.inr (Nat.le_trans (below_size bel) hn_))), Or.elim hk_ (fun hs_ => hs_.2) (fun hn_ => (Kd.fresh' (Kd.N_lt (by (with_reducible repeat (first | apply Kd.N_alloc | apply Kd.N_drewN | apply Kd.N_drew)); exact HO360.out)) k_ hn_)), Or.elim hk_ (fun hs_ => hs_.1.2) (fun hn_ => (Kd.freshB (g := gb343) (o := .cells #[.int .i64 a0_0, .slice A0_1 l0_1.length c0_1] 24 (0, 0)) blkz k_ hn_))⟩)) (below_size bel)); replace HO_1 := Aside0.mk (Kd.V_elder' (by (with_reducible repeat (first | apply Kd.V_alloc | apply Kd.V_drewN | apply Kd.V_drew)); exact HO_1.out) (by first | exact Kd.N_base ho0 | exact Kd.S_base ho0) hb); replace HO360 := Aside0.mk (Kd.N_elder' (by (with_reducible repeat (first | apply Kd.N_alloc | apply Kd.N_drewN | apply Kd.N_drew)); exact HO360.out) (by first | exact Kd.N_base ho0 | exact Kd.S_base ho0) hb); replace BK343 := Aside0.mk (blk_below (g := gb343) blkz hb); replace HB := Aside0.mk (below_step bel hb); (try clear hb); (try clear hb2); (try clear hk); (try clear hi); (try clear ho0); obtain ⟨hcz46_0, hcz46_1⟩ := bc2 BK343.out) | ((with_reducible refine gate_callee (f := 17) rfl ?_); refine goesL_ (some 54) rfl rfl Try.func17 (by kernel_rfl) rfl #[.agg #[.int .i64 a0_0, .slice A0_1 l0_1.length c0_1], .slice A1 l1.length c1] rfl mapz ?_; (with_reducible refine (key_Greatest.calls a0_0 _ _ l0_1 _ _ l1 t366 t369 _ (cbz HR0_1) HC0_1.out ?side3 ?side4 A33.out).mono ?_); (case side3 => repeat (first | exact (Kd.V_reads' HO_1.out).2.2 | (with_reducible refine Kd.C_alloc ?_ _) | (with_reducible refine Kd.C_drewN ?_ _) | (with_reducible refine Kd.C_drew ?_))); (case side4 => exact (Kd.V_reads' HO_1.out).2.1); rintro e w47 ⟨v367, rfl, ho0, hb⟩; refine ⟨_, rfl, ?_⟩; have HO368 := Aside0.mk (Kd.R_lower (Kd.R_newM (M := fun k_ => (w.heap.size ≤ k_)) ho0 (below_size bel) (fun k_ h_ => h_)) (below_size bel)); replace HO_1 := Aside0.mk (Kd.V_elder' (by (with_reducible repeat (first | apply Kd.V_alloc | apply Kd.V_drewN | apply Kd.V_drew)); exact HO_1.out) (Kd.R_base ho0) hb); replace HO360 := Aside0.mk (Kd.N_elder' (by (with_reducible repeat (first | apply Kd.N_alloc | apply Kd.N_drewN | apply Kd.N_drew)); exact HO360.out) (Kd.R_base ho0) hb); replace HO364 := Aside0.mk (Kd.N_elder' (by (with_reducible repeat (first | apply Kd.N_alloc | apply Kd.N_drewN | apply Kd.N_drew)); exact HO364.out) (Kd.R_base ho0) hb); replace BK343 := Aside0.mk (blk_below (g := gb343) blkz hb); replace HB := Aside0.mk (below_step bel hb); (try clear hb); (try clear hb2); (try clear hk); (try clear hi); (try clear ho0); obtain ⟨hcz48_0, hcz48_1⟩ := bc2 BK343.out) | ((with_reducible refine gate_callee (f := 36) rfl ?_); refine goesL_ (some 60) rfl rfl Try.func36 (by kernel_rfl) rfl #[.agg #[.int .i64 a0_0, .slice A0_1 l0_1.length c0_1], .slice A1 l1.length c1] rfl mapz ?_; (with_reducible refine (dropperref06_Greatest.calls kj14 a0_0 _ _ l0_1 _ _ l1 t370 t373 _ (cbz HR0_1) HC0_1.out ?side3 ?side4 A34.out).mono ?_); (case side3 => repeat (first | exact (Kd.V_reads' HO_1.out).2.2 | (with_reducible refine Kd.C_alloc ?_ _) | (with_reducible refine Kd.C_drewN ?_ _) | (with_reducible refine Kd.C_drew ?_))); (case side4 => exact (Kd.V_reads' HO_1.out).2.1); rintro e w49 ⟨v371, rfl, ho0, hb⟩; refine ⟨_, rfl, ?_⟩; have HO372 := Aside0.mk (Kd.R_lower (Kd.R_new' (Kd.R_newM (M := fun k_ => (w.heap.size ≤ k_)) ho0 (below_size bel) (fun k_ h_ => h_)) (Kd.R_lt (ownx HO368))) (below_size bel)); replace HO_1 := Aside0.mk (Kd.V_elder' (by (with_reducible repeat (first | apply Kd.V_alloc | apply Kd.V_drewN | apply Kd.V_drew)); exact HO_1.out) (Kd.R_base ho0) hb); replace HO360 := Aside0.mk (Kd.N_elder' (by (with_reducible repeat (first | apply Kd.N_alloc | apply Kd.N_drewN | apply Kd.N_drew)); exact HO360.out) (Kd.R_base ho0) hb); replace HO364 := Aside0.mk (Kd.N_elder' (by (with_reducible repeat (first | apply Kd.N_alloc | apply Kd.N_drewN | apply Kd.N_drew)); exact HO364.out) (Kd.R_base ho0) hb); replace HO368 := Aside0.mk (Kd.R_elder' (ownx HO368) (Kd.R_base ho0) hb); replace BK343 := Aside0.mk (blk_below (g := gb343) blkz hb); replace HB := Aside0.mk (below_step bel hb); (try clear hb); (try clear hb2); (try clear hk); (try clear hi); (try clear ho0); obtain ⟨Ao50, co50, eo50⟩ := Kd.N_slice HO360.out; subst eo50; obtain ⟨Ao51, co51, eo51⟩ := Kd.N_slice HO364.out; subst eo51) | (go_at_call 34; (with_reducible refine (dropperlaw06_sameLists.calls kj14 _ _ t358 _ _ t362 true _ ?side1 ?side2 ?side3 ?side4 A36.out).mono ?_); (case side1 => repeat (first | exact (Kd.N_reads' HO360.out).2.2 | (with_reducible refine Kd.C_alloc ?_ _) | (with_reducible refine Kd.C_drewN ?_ _) | (with_reducible refine Kd.C_drew ?_))); (case side2 => exact (Kd.N_reads' HO360.out).2.1); (case side3 => repeat (first | exact (Kd.N_reads' HO364.out).2.2 | (with_reducible refine Kd.C_alloc ?_ _) | (with_reducible refine Kd.C_drewN ?_ _) | (with_reducible refine Kd.C_drew ?_))); (case side4 => exact (Kd.N_reads' HO364.out).2.1); rintro e w' ⟨rfl, ⟨nd, rfl⟩⟩; obtain ⟨Ao52, co52, eo52⟩ := Kd.R_slice HO368.out; subst eo52; obtain ⟨Ao53, co53, eo53⟩ := Kd.R_slice HO372.out; subst eo53) | (go_at_call 27; (with_reducible refine (dropperlaw06_SameInts.calls kj14 _ _ t366 _ _ t370 true _ ?side1 ?side2 ?side3 ?side4 A39.out).mono ?_); (case side1 => repeat (first | exact (Kd.R_reads' HO368.out).2.2 | (with_reducible refine Kd.C_alloc ?_ _) | (with_reducible refine Kd.C_drewN ?_ _) | (with_reducible refine Kd.C_drew ?_))); (case side2 => exact (Kd.R_reads' HO368.out).2.1); (case side3 => repeat (first | exact (Kd.R_reads' HO372.out).2.2 | (with_reducible refine Kd.C_alloc ?_ _) | (with_reducible refine Kd.C_drewN ?_ _) | (with_reducible refine Kd.C_drew ?_))); (case side4 => exact (Kd.R_reads' HO372.out).2.1); rintro e w' ⟨rfl, ⟨nd, rfl⟩⟩) | (go_at_call 15; (with_reducible refine (dropperlaw06_Awake.calls kj14  t376 _ A41.out).mono ?_); rintro e w54 ⟨rfl, hb⟩; replace HO_1 := Aside0.mk (Kd.V_below (by (with_reducible repeat (first | apply Kd.V_alloc | apply Kd.V_drewN | apply Kd.V_drew)); exact HO_1.out) hb); replace HO360 := Aside0.mk (Kd.N_below (by (with_reducible repeat (first | apply Kd.N_alloc | apply Kd.N_drewN | apply Kd.N_drew)); exact HO360.out) hb); replace HO364 := Aside0.mk (Kd.N_below (by (with_reducible repeat (first | apply Kd.N_alloc | apply Kd.N_drewN | apply Kd.N_drew)); exact HO364.out) hb); replace HO368 := Aside0.mk (Kd.R_below (ownx HO368) hb); replace HO372 := Aside0.mk (Kd.R_below (ownx HO372) hb); replace BK343 := Aside0.mk (blk_below (g := gb343) blkz hb); replace HB := Aside0.mk (below_step bel hb); clear hb))
         go_ret
         exact ⟨ezz, bel⟩
        ·
         replace c40 := Bool.eq_false_iff.mpr c40
         subst c40
         rw [if_neg (show ¬ (false = true) by decide)] at H
         exact absurd H (by simp)
       ·
        rw [if_neg c38] at H
        exact absurd H (by simp)
      ·
       replace c37 := Bool.eq_false_iff.mpr c37
       subst c37
       rw [if_neg (show ¬ (false = true) by decide)] at H
       exact absurd H (by simp)
     ·
      rw [if_neg c35] at H
      exact absurd H (by simp)

end Go.Proofs.Ytgdfakmlpdeabaa.XKey
-- Written by wip/xprint.py of this repo, over the kit's print.py: out of the translation; the oracles in it are by hand. Not trusted: Lean checks it.
namespace Go.Proofs.Ytgdfakmlpdeabaa.XKey
open Go.RowKit Go.Proofs.Ytgdfakmlpdeabaa.XKey Go.Proofs.YtgdfakmlpdeabaaW.PrintWords Go.Proofs.YtgdfakmlpdeabaaW.PrintLast Go.Proofs.YtgdfakmlpdeabaaW.PrintMore
def dropperlaw06_KeyReaches.Pure : Prop := ∀ (a0_0 : Int) (l0_1 : List (S64)) (l1 : List Int), ((Lit.int .i64 a0_0).wf = true) → (l0_1.length ≤ 9223372036854775807 ∧ ∀ y0 ∈ l0_1, (y0.f0.length ≤ 9223372036854775807 ∧ ∀ y1 ∈ y0.f0, (Lit.int .i64 y1).wf = true) ∧ (y0.f1.length ≤ 9223372036854775807 ∧ ∀ y1 ∈ y0.f1, (Lit.int .i64 y1).wf = true)) → (l1.length ≤ 9223372036854775807 ∧ ∀ y0 ∈ l1, (Lit.int .i64 y0).wf = true) → ∃ k, dropperlaw06_KeyReaches.f k a0_0 l0_1 l1 = some true
end Go.Proofs.Ytgdfakmlpdeabaa.XKey

namespace Go.Proofs.Ytgdfakmlpdeabaa.XKey
open Go.RowKit Go.Proofs.YtgdfakmlpdeabaaW.PrintWords Go.Proofs.YtgdfakmlpdeabaaW.PrintLast Go.Proofs.YtgdfakmlpdeabaaW.PrintMore
attribute [local go_sem] max2_int min2_int max_two min_two max_three min_three max_four min_four   -- for this text's walks alone
set_option linter.unusedVariables false
set_option linter.unusedSimpArgs false
/-! ### dropperref06_Covers: function 25 -/
def dropperref06_Covers.l0 : Nat → List Int → List Int → Int → Option (Bool)
 | 0, _, _, _ => none
 | k + 1, x0, x1, x5 => if x5 < (x0.length : Int) then (if 0 ≤ x5 then (if x5 < (x1.length : Int) then (if (rd x0 x5) < (rd x1 x5) then (some false) else (dropperref06_Covers.l0 k x0 x1 (wrap64 (x5 + 1)))) else (none)) else (none)) else (some true)
def dropperref06_Covers.f (k : Nat) (l0 : List Int) (l1 : List Int) : Option (Bool) := dropperref06_Covers.l0 k l0 l1 0
/-! ### dropperref06_way: function 82 -/
def dropperref06_way.l0 : Nat → List Int → Bool → List (S87) → Int → Option (List Int × Int)
 | 0, _, _, _, _ => none
 | k + 1, x2, x3, x11, x13 => if x13 < (x11.length : Int) then (if 0 ≤ x13 then ((dropperref06_Covers.f k ((rd_T87 x11 x13).f0) x2).bind fun t643 => (if t643 = true then (if x3 = true then (some ((rd_T87 x11 x13).f1, 0)) else ((dropperref06_Covers.f k x2 ((rd_T87 x11 x13).f0)).bind fun t646 => (if t646 = true then (some ((rd_T87 x11 x13).f1, 0)) else (dropperref06_way.l0 k x2 x3 x11 (wrap64 (x13 + 1)))))) else (dropperref06_way.l0 k x2 x3 x11 (wrap64 (x13 + 1))))) else (none)) else (some (([] : List Int), 5))
def dropperref06_way.f (k : Nat) (a0_0 : Int) (l0_1 : List (S64)) (l1 : List Int) (l2 : List Int) (a3 : Bool) : Option (List Int × Int) := (dropperref06_asked.f k a0_0 l0_1 (([l1, l2] : List (List Int)))).bind fun t637 => (if t637 = 0 then ((dropperref06_found.f k a0_0 l0_1 l1).bind fun bt638 => (if bt638.2 = true then (dropperref06_way.l0 k l2 a3 bt638.1 0) else (some (([] : List Int), 4)))) else (some (([] : List Int), t637)))
/-! ### dropperref06_Way: function 47 -/
/-! ### dropperref06_Cover: function 48 -/
/-! ### key_Way: function 19 -/
def key_Way.is (l2 : List Int) (x : S70) : Bool := decide (key_spread.toL x = six l2)
def key_Way.f (a0_0 : Int) (l0_1 : List S64) (l1 l2 : List Int) : Option (List Int × Int) := key_play.play (key_Way.is l2) a0_0 l0_1 l1 l2
theorem key_Way.enter (vs : Array Value) (W : World) : (callFunc 60 vs).run Try.prog W = .ok (.enter 60 vs) W := enters_ Try.func60 (by kernel_rfl) (by kernel_rfl) vs W
theorem key_Way.wf_six {l2 : List Int} (h : ∀ y ∈ l2, 0 ≤ y ∧ y ≤ 100) : wf6 (six l2) := by
 have h1 : ∀ i : Int, 0 ≤ rd l2 i ∧ rd l2 i ≤ 100 := fun i => by
  unfold rd
  by_cases hi : i.toNat < l2.length
  ·
   rw [List.getD_eq_getElem?_getD, List.getElem?_eq_getElem hi]
   exact h _ (List.getElem_mem hi)
  ·
   rw [List.getD_eq_getElem?_getD, List.getElem?_eq_none (by omega)]
   simp
 intro x hx
 simp only [six, List.mem_cons, List.not_mem_nil, or_false] at hx
 rcases hx with rfl | rfl | rfl | rfl | rfl | rfl <;> exact ⟨by have := (h1 0).1; have := (h1 1).1; have := (h1 2).1; have := (h1 3).1; have := (h1 4).1; have := (h1 5).1; omega, by have := (h1 0).2; have := (h1 1).2; have := (h1 2).2; have := (h1 3).2; have := (h1 4).2; have := (h1 5).2; omega⟩
set_option maxHeartbeats 4000000 in
set_option maxRecDepth 100000 in
theorem key_Way.clos (g : Nat) (A2 : Option Addr) (c2 : Nat) (l2 : List Int) (x : S70) (w : World) (hcap : w.heap[g]? = some (.cells #[.slice A2 l2.length c2] 25 (0, 0))) (hr2 : (Kd.int .i64).C w A2 l2.length l2) (hc2 : l2.length ≤ c2) (hwx : wf6 (key_spread.toL x)) (hwl : wf6 (six l2)) :
  Calls Try.prog 60 #[.agg #[.int .i64 x.f0, .int .i64 x.f1, .int .i64 x.f2, .int .i64 x.f3, .int .i64 x.f4, .int .i64 x.f5], .pointer (some ⟨g, 0, none⟩)] w fun e w' => e = .returned (.bool (key_Way.is l2 x)) ∧ Below w.heap.size w w' := by
 have HR2 := Aside0.mk hr2
 have HC2 := Aside0.mk hc2
 obtain ⟨w0, hw0⟩ : ∃ w0, w0 = w.alloc (.cells #[.int .i64 x.f0, .int .i64 x.f1, .int .i64 x.f2, .int .i64 x.f3, .int .i64 x.f4, .int .i64 x.f5] 70) := ⟨_, rfl⟩
 have HB0 : Aside0 (Below w.heap.size w w0) := ⟨by rw [hw0]; exact below_alloc (Below.refl _ _) _⟩
 have B0 : Aside0 (w0.heap[w.heap.size]? = some (.cells #[.int .i64 x.f0, .int .i64 x.f1, .int .i64 x.f2, .int .i64 x.f3, .int .i64 x.f4, .int .i64 x.f5] 70 (0, 0))) := ⟨by rw [hw0]; exact blk_new w _⟩
 have G0 : Aside0 (w0.heap[g]? = some (.cells #[.slice A2 l2.length c2] 25 (0, 0))) := ⟨by rw [hw0]; exact blk_alloc hcap _⟩
 have hu := Try.underlying70
 have hgt : Try.prog.eqGuardType Try.prog.depth 70 = false := by kernel_rfl
 have heq : ∀ W, (Op.equalIn 10000 70 (.agg #[.int .i64 x.f0, .int .i64 x.f1, .int .i64 x.f2, .int .i64 x.f3, .int .i64 x.f4, .int .i64 x.f5]) (.agg #[.int .i64 (rd l2 0), .int .i64 (rd l2 1), .int .i64 (rd l2 2), .int .i64 (rd l2 3), .int .i64 (rd l2 4), .int .i64 (rd l2 5)])).run Try.prog W = .ok (key_Way.is l2 x) W := fun W => key_spread.eq_keys x ⟨rd l2 0, rd l2 1, rd l2 2, rd l2 3, rd l2 4, rd l2 5⟩ hwx hwl W
 clear hr2 hc2 hcap hwx hwl
 go_enter Try.func60, Try.ntmps60
 go_wp2
 change Code.wp _ _ _ _ (w.alloc (.cells #[.int .i64 x.f0, .int .i64 x.f1, .int .i64 x.f2, .int .i64 x.f3, .int .i64 x.f4, .int .i64 x.f5] 70))
 rw [← hw0]
 clear hw0
 refine start_ (n := 5) (S := fun w' => w'.cell? ⟨w.heap.size, 0, none⟩ = some (.int .i64 x.f0) ∧ w'.cell? ⟨w.heap.size, 1, none⟩ = some (.int .i64 x.f1) ∧ w'.cell? ⟨w.heap.size, 2, none⟩ = some (.int .i64 x.f2) ∧ w'.cell? ⟨w.heap.size, 3, none⟩ = some (.int .i64 x.f3) ∧ w'.cell? ⟨w.heap.size, 4, none⟩ = some (.int .i64 x.f4) ∧ w'.cell? ⟨w.heap.size, 5, none⟩ = some (.int .i64 x.f5) ∧ w'.cell? ⟨g, 0, none⟩ = some (.slice A2 l2.length c2)) (ds := []) #[false, false, false, false, false] (by kernel_rfl) rfl rfl ⟨blkc (blk_drew B0.out) 0 _ rfl, blkc (blk_drew B0.out) 1 _ rfl, blkc (blk_drew B0.out) 2 _ rfl, blkc (blk_drew B0.out) 3 _ rfl, blkc (blk_drew B0.out) 4 _ rfl, blkc (blk_drew B0.out) 5 _ rfl, blkc (blk_drew G0.out) 0 _ rfl⟩ (fun hHeld => ?_)
 replace HB0 := Aside0.mk (below_drew1 HB0.out)
 replace B0 := Aside0.mk (blk_drew B0.out)
 replace G0 := Aside0.mk (blk_drew G0.out)
 generalize w0.drew = w1 at HB0 B0 G0 hHeld ⊢
 refine tst7 (i := 0) (N := some 4) (bz 5 1) (by kernel_rfl) hHeld ?_
 refine tst7 (i := 1) (N := some 5) (bz 5 3) (by kernel_rfl) hHeld ?_
 refine one_ (i := 2) (N := some 6) #[true, true, true, false, false] rfl rfl (by kernel_rfl) (by decide) (fun K hK => ?_)
 refine goes_ Try.func61 (by kernel_rfl) rfl #[.slice A2 l2.length c2] (by rfl) rfl rfl mapz ?_
 refine (key_keysOf.calls A2 c2 l2 (rd l2 0) (rd l2 1) (rd l2 2) (rd l2 3) (rd l2 4) (rd l2 5) _ (Kd.C_below HR2.out HB0.out) HC2.out rfl).mono ?_
 rintro e w' ⟨rfl, hb⟩
 refine ⟨_, rfl, ?_⟩
 have HB1 := Aside0.mk (below_step HB0.out hb)
 have B1 := Aside0.mk (blk_below B0.out hb)
 have G1 := Aside0.mk (blk_below G0.out hb)
 clear hb
 refine hK.out _ _ ⟨blkc (B1.out) 0 _ rfl, blkc (B1.out) 1 _ rfl, blkc (B1.out) 2 _ rfl, blkc (B1.out) 3 _ rfl, blkc (B1.out) 4 _ rfl, blkc (B1.out) 5 _ rfl, blkc (G1.out) 0 _ rfl⟩ (fun hHeld => ?_)
 clear hK K
 refine norm_ (a' := ?_) ?_ ?_
 rotate_left
 ·
  show Act.put _ (some 6) _ = _
  simp only [Act.put, List.setIfInBounds_toArray, List.set_cons_zero, List.set_cons_succ, i64_w, i32_w]
  rfl
 refine pst (i := 3) (N := some 7) (bz 5 15) (by kernel_rfl) ?_
 refine pst (i := 4) (N := some 3) (bz 5 31) (by kernel_rfl) ?_
 refine done_ (by kernel_rfl) ?_
 go_wp2
 go_ret
 exact ⟨rfl, HB1.out⟩
set_option maxHeartbeats 8000000 in
set_option maxRecDepth 100000 in
theorem key_Way.calls (a0_0 : Int) (A0_1 : Option Addr) (c0_1 : Nat) (l0_1 : List S64) (A1 : Option Addr) (c1 : Nat) (l1 : List Int) (A2 : Option Addr) (c2 : Nat) (l2 : List Int) (r1 : List Int) (r2 : Int) (w : World) (hr0_1 : Kd.C k64 w A0_1 l0_1.length l0_1) (hc0_1 : l0_1.length ≤ c0_1) (hr1 : Kd.C (Kd.int .i64) w A1 l1.length l1) (hc1 : l1.length ≤ c1) (hr2 : Kd.C (Kd.int .i64) w A2 l2.length l2) (hc2 : l2.length ≤ c2) (h : key_Way.f a0_0 l0_1 l1 l2 = some (r1, r2)) :
  Calls Try.prog 19 #[.agg #[.int .i64 a0_0, .slice A0_1 l0_1.length c0_1], .slice A1 l1.length c1, .slice A2 l2.length c2] w fun e w' => ∃ v0_ : Value, e = .returned (.tuple #[v0_, .int .i64 r2]) ∧ Kd.R (Kd.int .i64) 3 w' w.heap.size (fun _ => True) v0_ r1 ∧ Below w.heap.size w w' := by
 have hu := Try.underlying24
 have HR := Aside0.mk hr0_1
 have HC := Aside0.mk hc0_1
 have HR1 := Aside0.mk hr1
 have HC1 := Aside0.mk hc1
 have HR2 := Aside0.mk hr2
 have HC2 := Aside0.mk hc2
 have H := Aside0.mk h
 obtain ⟨w2, hw2⟩ : ∃ W, W = (w.alloc (.cells #[.int .i64 a0_0, .slice A0_1 l0_1.length c0_1] 24)).alloc (.cells #[.slice A2 l2.length c2] 25) := ⟨_, rfl⟩
 have s1 : (w.alloc (.cells #[.int .i64 a0_0, .slice A0_1 l0_1.length c0_1] 24)).heap.size = w.heap.size + 1 := Array.size_push ..
 have HB2 : Aside0 (Below w.heap.size w w2) := ⟨by rw [hw2]; exact below_alloc (below_alloc (Below.refl _ _) _) _⟩
 have L2 : Aside0 (w2.heap[w.heap.size + 1]? = some (.cells #[.slice A2 l2.length c2] 25 (0, 0))) := ⟨by rw [hw2, ← s1]; exact blk_new _ _⟩
 have HW := Aside0.mk hw2
 clear hr0_1 hc0_1 hr1 hc1 hr2 hc2 h s1 hw2
 go_enter Try.func19, Try.ntmps19
 go_wp2_with (go_at_call 59; rw [← HW.out]; refine (key_play.plays 60 #[.pointer (some ⟨w.heap.size + 1, 0, none⟩)] (key_Way.is l2) a0_0 A0_1 c0_1 l0_1 A1 c1 l1 A2 c2 l2 r1 r2 _ (Kd.C_below HR.out HB2.out) HC.out (Kd.C_below HR1.out HB2.out) HC1.out (Kd.C_below HR2.out HB2.out) HC2.out key_Way.enter (fun hin x W hwx hb => key_Way.clos (w.heap.size + 1) A2 c2 l2 x W (blk_below L2.out hb) (Kd.C_below (Kd.C_below HR2.out HB2.out) hb) HC2.out hwx (key_Way.wf_six hin)) H.out).mono ?_; rintro e w3 ⟨v3, rfl, ho, hb⟩; have HO3 := Aside0.mk (Kd.R_lower ho HB2.out.size); have HB3 := Aside0.mk (below_step HB2.out hb); clear ho hb)
 go_ret2
 exact ⟨_, rfl, HO3.out, HB3.out⟩

/-! ### key_keys_covers: function 63 -/
def key_keys_covers.f (a0_0 a0_1 a0_2 a0_3 a0_4 a0_5 a1_0 a1_1 a1_2 a1_3 a1_4 a1_5 : Int) : Option Bool := some (decide (a1_0 ≤ a0_0) && decide (a1_1 ≤ a0_1) && decide (a1_2 ≤ a0_2) && decide (a1_3 ≤ a0_3) && decide (a1_4 ≤ a0_4) && decide (a1_5 ≤ a0_5))
set_option maxHeartbeats 8000000 in
set_option maxRecDepth 100000 in
theorem key_keys_covers.calls (a0_0 : Int) (a0_1 : Int) (a0_2 : Int) (a0_3 : Int) (a0_4 : Int) (a0_5 : Int) (a1_0 : Int) (a1_1 : Int) (a1_2 : Int) (a1_3 : Int) (a1_4 : Int) (a1_5 : Int) (r : Bool) (w : World) (h : key_keys_covers.f a0_0 a0_1 a0_2 a0_3 a0_4 a0_5 a1_0 a1_1 a1_2 a1_3 a1_4 a1_5 = some r) :
  Calls Try.prog 63 #[.agg #[.int .i64 a0_0, .int .i64 a0_1, .int .i64 a0_2, .int .i64 a0_3, .int .i64 a0_4, .int .i64 a0_5], .agg #[.int .i64 a1_0, .int .i64 a1_1, .int .i64 a1_2, .int .i64 a1_3, .int .i64 a1_4, .int .i64 a1_5]] w fun e w' => e = .returned (.bool r) ∧ Below w.heap.size w w' := by
 obtain ⟨s, hs⟩ : ∃ s : List Int, s = [a0_0, a0_1, a0_2, a0_3, a0_4, a0_5] := ⟨_, rfl⟩
 obtain ⟨t, ht⟩ : ∃ t : List Int, t = [a1_0, a1_1, a1_2, a1_3, a1_4, a1_5] := ⟨_, rfl⟩
 have HR : Aside0 (r = [0, 1, 2, 3, 4, 5].all fun i => decide (rd t i ≤ rd s i)) := ⟨by rw [← Option.some.inj h, hs, ht]; simp [rd, Bool.and_assoc]⟩
 have HS : Aside0 (s.length = 6) := ⟨by rw [hs]; rfl⟩
 have HT : Aside0 (t.length = 6) := ⟨by rw [ht]; rfl⟩
 clear h
 have e1 : (#[.int .i64 a0_0, .int .i64 a0_1, .int .i64 a0_2, .int .i64 a0_3, .int .i64 a0_4, .int .i64 a0_5] : Array Value) = ar s := by rw [hs]; rfl
 have e2 : (#[.int .i64 a1_0, .int .i64 a1_1, .int .i64 a1_2, .int .i64 a1_3, .int .i64 a1_4, .int .i64 a1_5] : Array Value) = ar t := by rw [ht]; rfl
 have E1 := Aside0.mk e1
 have E2 := Aside0.mk e2
 clear e1 e2 hs ht
 have hi1 : Aside0 ((Try.prog.info? 70).map (·.size) = some 6) := ⟨by kernel_rfl⟩
 have hu2 := Aside0.mk Try.underlying70
 have B1 : Aside0 (((w.alloc (.cells #[.int .i64 a0_0, .int .i64 a0_1, .int .i64 a0_2, .int .i64 a0_3, .int .i64 a0_4, .int .i64 a0_5] 70)).alloc (.cells #[.int .i64 a1_0, .int .i64 a1_1, .int .i64 a1_2, .int .i64 a1_3, .int .i64 a1_4, .int .i64 a1_5] 70)).heap[w.heap.size + 1]? = some (.cells #[.int .i64 a1_0, .int .i64 a1_1, .int .i64 a1_2, .int .i64 a1_3, .int .i64 a1_4, .int .i64 a1_5] 70 (0, 0))) := ⟨by
  have s0 : (w.alloc (.cells #[.int .i64 a0_0, .int .i64 a0_1, .int .i64 a0_2, .int .i64 a0_3, .int .i64 a0_4, .int .i64 a0_5] 70)).heap.size = w.heap.size + 1 := Array.size_push ..
  rw [← s0]; exact blk_new _ _⟩
 go_enter Try.func63, Try.ntmps63
 go_wp2_with (with_reducible refine wpList_load_row rfl 70 (.tmp 3) rfl (w.heap.size + 1) rfl 70 _ (0, 0) _ B1.out hu2.out rfl hi1.out ?_)
 obtain ⟨w0, hw0⟩ : ∃ w0, w0 = (w.alloc (.cells #[.int .i64 a0_0, .int .i64 a0_1, .int .i64 a0_2, .int .i64 a0_3, .int .i64 a0_4, .int .i64 a0_5] 70)).alloc (.cells #[.int .i64 a1_0, .int .i64 a1_1, .int .i64 a1_2, .int .i64 a1_3, .int .i64 a1_4, .int .i64 a1_5] 70) := ⟨_, rfl⟩
 have F2 : Aside0 (w0.heap[w.heap.size]? = some (.cells (ar s) 70 (0, 0))) := ⟨by rw [hw0, ← E1.out]; exact blk_alloc (blk_new w _) _⟩
 have HB0 : Aside0 (Below w.heap.size w w0) := ⟨by rw [hw0]; exact below_alloc (below_alloc (Below.refl _ _) _) _⟩
 rw [← hw0]
 rw [E2.out]
 clear hw0 B1
 go_loopg [8] 6 (fun kq v8 w' => ∃ (i : Int), v8 = .int .i64 i ∧ Aside0 (0 ≤ i ∧ i ≤ 6) ∧ Aside0 (kq = 6 - i.toNat) ∧ Aside0 (∀ j : Int, 0 ≤ j → j < i → rd t j ≤ rd s j) ∧ Aside0 (w'.heap[w.heap.size]? = some (.cells (ar s) 70 (0, 0))) ∧ Aside0 (Below w.heap.size w w'))
 case atStart => exact ⟨0, rfl, ⟨by omega, by omega⟩, ⟨rfl⟩, ⟨fun j h1 h2 => by omega⟩, F2, HB0⟩
 case round =>
  obtain ⟨i, rfl, HI, HK, HA, G2, HB⟩ := hrel
  by_cases hlt : i < 6
  ·
   have p1 : 0 ≤ i := HI.out.1
   have c2 := blkc G2.out i.toNat (.int .i64 (rd s i)) (ar_get s i p1 (by rw [HS.out]; omega))
   have c3 : ∀ W, (Instr.index 70 (.agg (ar t)) (.int .i64 i)).run Try.prog W = .ok (.int .i64 (rd t i)) W := fun W => index_ar hu2.out (fun _ => by kernel_rfl) (fun _ => by kernel_rfl) t i p1 hlt HT.out W
   have b0 := eq_true p1
   have b1 := eq_true hlt
   by_cases hc : rd s i < rd t i
   ·
    have h1 : decide (rd s i < rd t i) = true := decide_eq_true hc
    go_wp2
    go_ret
    refine ⟨?_, by repeat (first | exact HB.out | apply pw_below_drewN | apply below_drew1)⟩
    rw [HR.out]
    have : ([0, 1, 2, 3, 4, 5].all fun i => decide (rd t i ≤ rd s i)) = false := by
     rw [List.all_eq_false]
     refine ⟨i, ?_, by simpa using hc⟩
     have := of_eq_true b0
     have := of_eq_true b1
     simp; omega
    rw [this]; rfl
   ·
    have h1 : decide (rd s i < rd t i) = false := decide_eq_false hc
    go_wp2
    go_roundg (6 - (i + 1).toNat)
    case measure => have := HI.out; have := HK.out; have := of_eq_true b1; omega
    case rel =>
     have hw : wrap64 (i + 1) = i + 1 := by unfold wrap64; have := HI.out; omega
     refine ⟨i + 1, by first | rfl | rw [hw], ⟨by have := HI.out; omega, by have := of_eq_true b1; omega⟩, ⟨rfl⟩, ⟨fun j h2 h3 => ?_⟩, G2, HB⟩
     by_cases hj : j < i
     ·
      exact HA.out j h2 hj
     ·
      obtain rfl : j = i := by omega
      omega
  ·
   have h1 : decide (i < 6) = false := decide_eq_false hlt
   go_wp2
   go_ret
   refine ⟨?_, HB.out⟩
   rw [HR.out]
   have : ([0, 1, 2, 3, 4, 5].all fun i => decide (rd t i ≤ rd s i)) = true := by
    rw [List.all_eq_true]
    intro j hj
    have := HI.out
    have hj2 : 0 ≤ j ∧ j < 6 := by simp at hj; omega
    simpa using HA.out j hj2.1 (by omega)
   rw [this]; rfl

/-! ### key_Cover: function 20 -/
def key_Cover.is (l : List Int) (x : S70) : Bool := decide (rd l 0 ≤ x.f0) && decide (rd l 1 ≤ x.f1) && decide (rd l 2 ≤ x.f2) && decide (rd l 3 ≤ x.f3) && decide (rd l 4 ≤ x.f4) && decide (rd l 5 ≤ x.f5)
def key_Cover.f (a0_0 : Int) (l0_1 : List S64) (l1 l2 : List Int) : Option (List Int × Int) := key_play.play (key_Cover.is l2) a0_0 l0_1 l1 l2
theorem key_Cover.enter (vs : Array Value) (W : World) : (callFunc 62 vs).run Try.prog W = .ok (.enter 62 vs) W := enters_ Try.func62 (by kernel_rfl) (by kernel_rfl) vs W
theorem key_Cover.wf_six {l2 : List Int} (h : ∀ y ∈ l2, 0 ≤ y ∧ y ≤ 100) : wf6 (six l2) := by
 have h1 : ∀ i : Int, 0 ≤ rd l2 i ∧ rd l2 i ≤ 100 := fun i => by
  unfold rd
  by_cases hi : i.toNat < l2.length
  ·
   rw [List.getD_eq_getElem?_getD, List.getElem?_eq_getElem hi]
   exact h _ (List.getElem_mem hi)
  ·
   rw [List.getD_eq_getElem?_getD, List.getElem?_eq_none (by omega)]
   simp
 intro x hx
 simp only [six, List.mem_cons, List.not_mem_nil, or_false] at hx
 rcases hx with rfl | rfl | rfl | rfl | rfl | rfl <;> exact ⟨by have := (h1 0).1; have := (h1 1).1; have := (h1 2).1; have := (h1 3).1; have := (h1 4).1; have := (h1 5).1; omega, by have := (h1 0).2; have := (h1 1).2; have := (h1 2).2; have := (h1 3).2; have := (h1 4).2; have := (h1 5).2; omega⟩
set_option maxHeartbeats 4000000 in
set_option maxRecDepth 100000 in
theorem key_Cover.clos (g : Nat) (A2 : Option Addr) (c2 : Nat) (l2 : List Int) (x : S70) (w : World) (hcap : w.heap[g]? = some (.cells #[.slice A2 l2.length c2] 25 (0, 0))) (hr2 : (Kd.int .i64).C w A2 l2.length l2) (hc2 : l2.length ≤ c2) (hwx : wf6 (key_spread.toL x)) (hwl : wf6 (six l2)) :
  Calls Try.prog 62 #[.agg #[.int .i64 x.f0, .int .i64 x.f1, .int .i64 x.f2, .int .i64 x.f3, .int .i64 x.f4, .int .i64 x.f5], .pointer (some ⟨g, 0, none⟩)] w fun e w' => e = .returned (.bool (key_Cover.is l2 x)) ∧ Below w.heap.size w w' := by
 have HR2 := Aside0.mk hr2
 have HC2 := Aside0.mk hc2
 obtain ⟨w0, hw0⟩ : ∃ w0, w0 = w.alloc (.cells #[.int .i64 x.f0, .int .i64 x.f1, .int .i64 x.f2, .int .i64 x.f3, .int .i64 x.f4, .int .i64 x.f5] 70) := ⟨_, rfl⟩
 have HB0 : Aside0 (Below w.heap.size w w0) := ⟨by rw [hw0]; exact below_alloc (Below.refl _ _) _⟩
 have B0 : Aside0 (w0.heap[w.heap.size]? = some (.cells #[.int .i64 x.f0, .int .i64 x.f1, .int .i64 x.f2, .int .i64 x.f3, .int .i64 x.f4, .int .i64 x.f5] 70 (0, 0))) := ⟨by rw [hw0]; exact blk_new w _⟩
 have G0 : Aside0 (w0.heap[g]? = some (.cells #[.slice A2 l2.length c2] 25 (0, 0))) := ⟨by rw [hw0]; exact blk_alloc hcap _⟩
 have hu := Try.underlying70
 clear hr2 hc2 hcap hwx hwl
 go_enter Try.func62, Try.ntmps62
 go_wp2
 change Code.wp _ _ _ _ (w.alloc (.cells #[.int .i64 x.f0, .int .i64 x.f1, .int .i64 x.f2, .int .i64 x.f3, .int .i64 x.f4, .int .i64 x.f5] 70))
 rw [← hw0]
 clear hw0
 refine start_ (n := 5) (S := fun w' => w'.cell? ⟨w.heap.size, 0, none⟩ = some (.int .i64 x.f0) ∧ w'.cell? ⟨w.heap.size, 1, none⟩ = some (.int .i64 x.f1) ∧ w'.cell? ⟨w.heap.size, 2, none⟩ = some (.int .i64 x.f2) ∧ w'.cell? ⟨w.heap.size, 3, none⟩ = some (.int .i64 x.f3) ∧ w'.cell? ⟨w.heap.size, 4, none⟩ = some (.int .i64 x.f4) ∧ w'.cell? ⟨w.heap.size, 5, none⟩ = some (.int .i64 x.f5) ∧ w'.cell? ⟨g, 0, none⟩ = some (.slice A2 l2.length c2)) (ds := []) #[false, false, false, false, false] (by kernel_rfl) rfl rfl ⟨blkc (blk_drew B0.out) 0 _ rfl, blkc (blk_drew B0.out) 1 _ rfl, blkc (blk_drew B0.out) 2 _ rfl, blkc (blk_drew B0.out) 3 _ rfl, blkc (blk_drew B0.out) 4 _ rfl, blkc (blk_drew B0.out) 5 _ rfl, blkc (blk_drew G0.out) 0 _ rfl⟩ (fun hHeld => ?_)
 replace HB0 := Aside0.mk (below_drew1 HB0.out)
 replace B0 := Aside0.mk (blk_drew B0.out)
 replace G0 := Aside0.mk (blk_drew G0.out)
 generalize w0.drew = w1 at HB0 B0 G0 hHeld ⊢
 refine tst7 (i := 0) (N := some 4) (bz 5 1) (by kernel_rfl) hHeld ?_
 refine tst7 (i := 1) (N := some 5) (bz 5 3) (by kernel_rfl) hHeld ?_
 refine one_ (i := 2) (N := some 6) #[true, true, true, false, false] rfl rfl (by kernel_rfl) (by decide) (fun K hK => ?_)
 refine goes_ Try.func61 (by kernel_rfl) rfl #[.slice A2 l2.length c2] (by rfl) rfl rfl mapz ?_
 refine (key_keysOf.calls A2 c2 l2 (rd l2 0) (rd l2 1) (rd l2 2) (rd l2 3) (rd l2 4) (rd l2 5) _ (Kd.C_below HR2.out HB0.out) HC2.out rfl).mono ?_
 rintro e w' ⟨rfl, hb⟩
 refine ⟨_, rfl, ?_⟩
 have HB1 := Aside0.mk (below_step HB0.out hb)
 have B1 := Aside0.mk (blk_below B0.out hb)
 have G1 := Aside0.mk (blk_below G0.out hb)
 clear hb
 refine hK.out _ _ ⟨blkc (B1.out) 0 _ rfl, blkc (B1.out) 1 _ rfl, blkc (B1.out) 2 _ rfl, blkc (B1.out) 3 _ rfl, blkc (B1.out) 4 _ rfl, blkc (B1.out) 5 _ rfl, blkc (G1.out) 0 _ rfl⟩ (fun hHeld => ?_)
 clear hK K
 refine norm_ (a' := ?_) ?_ ?_
 rotate_left
 ·
  show Act.put _ (some 6) _ = _
  simp only [Act.put, List.setIfInBounds_toArray, List.set_cons_zero, List.set_cons_succ, i64_w, i32_w]
  rfl
 refine one_ (i := 3) (N := some 7) #[true, true, true, true, false] rfl rfl (by kernel_rfl) (by decide) (fun K hK => ?_)
 refine goes_ Try.func63 (by kernel_rfl) rfl #[.agg #[.int .i64 x.f0, .int .i64 x.f1, .int .i64 x.f2, .int .i64 x.f3, .int .i64 x.f4, .int .i64 x.f5], .agg #[.int .i64 (rd l2 0), .int .i64 (rd l2 1), .int .i64 (rd l2 2), .int .i64 (rd l2 3), .int .i64 (rd l2 4), .int .i64 (rd l2 5)]] (by rfl) rfl rfl mapz ?_
 refine (key_keys_covers.calls x.f0 x.f1 x.f2 x.f3 x.f4 x.f5 (rd l2 0) (rd l2 1) (rd l2 2) (rd l2 3) (rd l2 4) (rd l2 5) (key_Cover.is l2 x) _ rfl).mono ?_
 rintro e w' ⟨rfl, hb⟩
 refine ⟨_, rfl, ?_⟩
 have HB2 := Aside0.mk (below_step HB1.out hb)
 have B2 := Aside0.mk (blk_below B1.out hb)
 have G2 := Aside0.mk (blk_below G1.out hb)
 clear hb
 refine hK.out _ _ ⟨blkc B2.out 0 _ rfl, blkc B2.out 1 _ rfl, blkc B2.out 2 _ rfl, blkc B2.out 3 _ rfl, blkc B2.out 4 _ rfl, blkc B2.out 5 _ rfl, blkc G2.out 0 _ rfl⟩ (fun hHeld => ?_)
 clear hK K
 refine norm_ (a' := ?_) ?_ ?_
 rotate_left
 ·
  show Act.put _ (some 7) _ = _
  simp only [Act.put, List.setIfInBounds_toArray, List.set_cons_zero, List.set_cons_succ, i64_w, i32_w]
  rfl
 refine pst (i := 4) (N := some 3) (bz 5 31) (by kernel_rfl) ?_
 refine done_ (by kernel_rfl) ?_
 go_wp2
 go_ret
 exact ⟨rfl, HB2.out⟩
set_option maxHeartbeats 8000000 in
set_option maxRecDepth 100000 in
theorem key_Cover.calls (a0_0 : Int) (A0_1 : Option Addr) (c0_1 : Nat) (l0_1 : List S64) (A1 : Option Addr) (c1 : Nat) (l1 : List Int) (A2 : Option Addr) (c2 : Nat) (l2 : List Int) (r1 : List Int) (r2 : Int) (w : World) (hr0_1 : Kd.C k64 w A0_1 l0_1.length l0_1) (hc0_1 : l0_1.length ≤ c0_1) (hr1 : Kd.C (Kd.int .i64) w A1 l1.length l1) (hc1 : l1.length ≤ c1) (hr2 : Kd.C (Kd.int .i64) w A2 l2.length l2) (hc2 : l2.length ≤ c2) (h : key_Cover.f a0_0 l0_1 l1 l2 = some (r1, r2)) :
  Calls Try.prog 20 #[.agg #[.int .i64 a0_0, .slice A0_1 l0_1.length c0_1], .slice A1 l1.length c1, .slice A2 l2.length c2] w fun e w' => ∃ v0_ : Value, e = .returned (.tuple #[v0_, .int .i64 r2]) ∧ Kd.R (Kd.int .i64) 3 w' w.heap.size (fun _ => True) v0_ r1 ∧ Below w.heap.size w w' := by
 have hu := Try.underlying24
 have HR := Aside0.mk hr0_1
 have HC := Aside0.mk hc0_1
 have HR1 := Aside0.mk hr1
 have HC1 := Aside0.mk hc1
 have HR2 := Aside0.mk hr2
 have HC2 := Aside0.mk hc2
 have H := Aside0.mk h
 obtain ⟨w2, hw2⟩ : ∃ W, W = (w.alloc (.cells #[.int .i64 a0_0, .slice A0_1 l0_1.length c0_1] 24)).alloc (.cells #[.slice A2 l2.length c2] 25) := ⟨_, rfl⟩
 have s1 : (w.alloc (.cells #[.int .i64 a0_0, .slice A0_1 l0_1.length c0_1] 24)).heap.size = w.heap.size + 1 := Array.size_push ..
 have HB2 : Aside0 (Below w.heap.size w w2) := ⟨by rw [hw2]; exact below_alloc (below_alloc (Below.refl _ _) _) _⟩
 have L2 : Aside0 (w2.heap[w.heap.size + 1]? = some (.cells #[.slice A2 l2.length c2] 25 (0, 0))) := ⟨by rw [hw2, ← s1]; exact blk_new _ _⟩
 have HW := Aside0.mk hw2
 clear hr0_1 hc0_1 hr1 hc1 hr2 hc2 h s1 hw2
 go_enter Try.func20, Try.ntmps20
 go_wp2_with (go_at_call 59; rw [← HW.out]; refine (key_play.plays 62 #[.pointer (some ⟨w.heap.size + 1, 0, none⟩)] (key_Cover.is l2) a0_0 A0_1 c0_1 l0_1 A1 c1 l1 A2 c2 l2 r1 r2 _ (Kd.C_below HR.out HB2.out) HC.out (Kd.C_below HR1.out HB2.out) HC1.out (Kd.C_below HR2.out HB2.out) HC2.out key_Cover.enter (fun hin x W hwx hb => key_Cover.clos (w.heap.size + 1) A2 c2 l2 x W (blk_below L2.out hb) (Kd.C_below (Kd.C_below HR2.out HB2.out) hb) HC2.out hwx (key_Cover.wf_six hin)) H.out).mono ?_; rintro e w3 ⟨v3, rfl, ho, hb⟩; have HO3 := Aside0.mk (Kd.R_lower ho HB2.out.size); have HB3 := Aside0.mk (below_step HB2.out hb); clear ho hb)
 go_ret2
 exact ⟨_, rfl, HO3.out, HB3.out⟩

/-! ### droppertop_among: function 26 -/
def droppertop_among.l0 : Nat → List (List Int) → List Int → Int → Option (Bool)
 | 0, _, _, _ => none
 | k + 1, x0, x1, x5 => if x5 < (x0.length : Int) then (if 0 ≤ x5 then ((dropperlaw06_SameInts.f k (rd_L1 x0 x5) x1).bind fun t726 => (if t726 = true then (some true) else (droppertop_among.l0 k x0 x1 (wrap64 (x5 + 1))))) else (none)) else (some false)
def droppertop_among.f (k : Nat) (l0 : List (List Int)) (l1 : List Int) : Option (Bool) := droppertop_among.l0 k l0 l1 0
/-! ### key_After: function 28 -/
def key_After.l0 : Nat → List Int → Int → Int → Int → List (S64) → Int → Int → Int → Int → Int → Int → Option (List Int × Int)
 | 0, _, _, _, _, _, _, _, _, _, _, _ => none
 | k + 1, x38, x39, x40, x551000, x551001, x563000, x563001, x563002, x563003, x563004, x563005 => if x40 < x39 then (if 0 ≤ x40 then (if x40 < (x38.length : Int) then (if 0 ≤ (rd x38 x40) then (if (rd x38 x40) < (x551001.length : Int) then ((key_keys_made.f x563000 x563001 x563002 x563003 x563004 x563005 ((rd_T64 x551001 (rd x38 x40)).f0) ((rd_T64 x551001 (rd x38 x40)).f1)).bind fun bt565 => (if bt565.2.2.2.2.2.2 = true then (key_After.l0 k x38 x39 (wrap64 (x40 + 1)) x551000 x551001 bt565.1 bt565.2.1 bt565.2.2.1 bt565.2.2.2.1 bt565.2.2.2.2.1 bt565.2.2.2.2.2.1) else (some (([] : List Int), 5)))) else (none)) else (none)) else (none)) else (none)) else ((key_keys_list.f x563000 x563001 x563002 x563003 x563004 x563005 x551000).bind fun t572 => (some (t572, 0)))
def key_After.f (k : Nat) (a0_0 : Int) (l0_1 : List (S64)) (l1 : List Int) (l2 : List Int) : Option (List Int × Int) := (key_open.f a0_0 l0_1 (([l1] : List (List Int)))).bind fun t554 => (if t554 = 0 then (if (l2.length : Int) > 1000 then (some (([] : List Int), 2)) else ((key_isList.f l2 (l2.length : Int) 0 (wrap64 ((l0_1.length : Int) - 1))).bind fun t555 => (if t555 = true then ((key_keysOf.f l1).bind fun bt556 => (key_After.l0 k l2 (l2.length : Int) 0 a0_0 l0_1 bt556.1 bt556.2.1 bt556.2.2.1 bt556.2.2.2.1 bt556.2.2.2.2.1 bt556.2.2.2.2.2)) else (some (([] : List Int), 2))))) else (some (([] : List Int), t554)))
def key_After.T11 : Bool × List (List Nat × List Nat) := (true, [([], []), ([], []), ([1], [1]), ([], []), ([2, 3], [2, 3]), ([4], [4]), ([0, 5], [0, 5]), ([6], [6]), ([7], [7]), ([7], [7]), ([8, 6, 0, 1, 2, 3, 4, 5, 6, 7, 8], [8]), ([9, 10, 0, 1, 2, 3, 4, 5, 6, 7, 8, 9, 10], [9])])
def key_After.B11 : List Nat := [0, 0, 2, 0, 14, 30, 63, 127, 255, 255, 511, 2047]
theorem key_After.tab11 : rtab .any (opsOf Try.f28 11) = key_After.T11 := by kernel_rfl
theorem key_After.bits11 : waitsOk key_After.T11.2 key_After.B11 = true := by kernel_rfl
/-! ### key_within: function 78 -/
def key_within.f (a0 : Int) (a1 : Int) (a2 : Int) : Option (Bool) := if a0 ≤ a1 then (some (decide (a1 ≤ a2))) else (some false)
/-! ### key_Make: function 41 -/
def key_Make.f (a0_0 : Int) (l0_1 : List (S64)) (l1 : List Int) (a2 : Int) : Option (List Int × Int) := (key_open.f a0_0 l0_1 (([l1] : List (List Int)))).bind fun t471 => (if t471 = 0 then ((key_within.f 0 a2 (wrap64 ((l0_1.length : Int) - 1))).bind fun t472 => (if t472 = true then ((key_keysOf.f l1).bind fun bt473 => (if 0 ≤ a2 then (if a2 < (l0_1.length : Int) then ((key_keys_made.f bt473.1 bt473.2.1 bt473.2.2.1 bt473.2.2.2.1 bt473.2.2.2.2.1 bt473.2.2.2.2.2 ((rd_T64 l0_1 a2).f0) ((rd_T64 l0_1 a2).f1)).bind fun bt480 => (if bt480.2.2.2.2.2.2 = true then ((key_keys_list.f bt480.1 bt480.2.1 bt480.2.2.1 bt480.2.2.2.1 bt480.2.2.2.2.1 bt480.2.2.2.2.2.1 a0_0).bind fun t488 => (some (t488, 0))) else (some (([] : List Int), 5)))) else (none)) else (none))) else (some (([] : List Int), 2)))) else (some (([] : List Int), t471)))
/-! ### key_Can: function 24 -/
def key_Can.f (k : Nat) (a0_0 : Int) (l0_1 : List (S64)) (l1 : List Int) : Option (List Int × Int) := (key_open.f a0_0 l0_1 (([l1] : List (List Int)))).bind fun t457 => (if t457 = 0 then ((key_keysOf.f l1).bind fun bt458 => ((key_can.f k a0_0 l0_1 bt458.1 bt458.2.1 bt458.2.2.1 bt458.2.2.2.1 bt458.2.2.2.2.1 bt458.2.2.2.2.2).bind fun t464 => (some (t464, 0)))) else (some (([] : List Int), t457)))
/-! ### dropperref06_play: function 81 -/
mutual
def dropperref06_play.j0 : Nat → List Int → List Int → Bool → Int → List (S64) → Option (List Int × Bool × Bool)
 | 0, _, _, _, _, _ => none
 | k + 1, x1, x2, x25, x492000, x492001 => if x25 = true then (some (([] : List Int), false, false)) else ((some (([] : List Int) : List Int)).bind fun y493 => (if y493.length + x1.length < 17592186044416 then (dropperref06_play.l0 k x2 (y493 ++ x1) 0 x492000 x492001) else (none)))
def dropperref06_play.l0 : Nat → List Int → List Int → Int → Int → List (S64) → Option (List Int × Bool × Bool)
 | 0, _, _, _, _, _ => none
 | k + 1, x2, x6, x9, x492000, x492001 => if x9 < (x2.length : Int) then (if 0 ≤ x9 then (if 0 ≤ (rd x2 x9) then (if (rd x2 x9) < (x492001.length : Int) then ((dropperref06_after.f k ((rd_T64 x492001 (rd x2 x9)).f0) ((rd_T64 x492001 (rd x2 x9)).f1) x6).bind fun bt501 => (if bt501.2 = true then (dropperref06_play.l0 k x2 bt501.1 (wrap64 (x9 + 1)) x492000 x492001) else (some (([] : List Int), true, false)))) else (none)) else (none)) else (none)) else (some (x6, true, true))
end
def dropperref06_play.f (k : Nat) (a0_0 : Int) (l0_1 : List (S64)) (l1 : List Int) (l2 : List Int) : Option (List Int × Bool × Bool) := if (l2.length : Int) > 1000 then (dropperref06_play.j0 k l1 l2 true a0_0 l0_1) else ((dropperref06_list.f k l2 (l2.length : Int) 0 (wrap64 ((l0_1.length : Int) - 1))).bind fun t492 => (dropperref06_play.j0 k l1 l2 (!t492) a0_0 l0_1))
def dropperref06_play.B7 : List Nat := [0, 1, 0, 0, 12, 28, 63, 127, 0, 511, 1023, 2047, 2047, 4095, 16383]
/-! ### dropperref06_After: function 44 -/
def dropperref06_After.f (k : Nat) (a0_0 : Int) (l0_1 : List (S64)) (l1 : List Int) (l2 : List Int) : Option (List Int × Int) := (dropperref06_asked.f k a0_0 l0_1 (([l1] : List (List Int)))).bind fun t509 => (if t509 = 0 then ((dropperref06_play.f k a0_0 l0_1 l1 l2).bind fun bt510 => (if bt510.2.1 = true then (if bt510.2.2 = true then (some (bt510.1, 0)) else (some (([] : List Int), 5))) else (some (([] : List Int), 2)))) else (some (([] : List Int), t509)))
/-! ### dropperref06_Make: function 42 -/
def dropperref06_Make.f (k : Nat) (a0_0 : Int) (l0_1 : List (S64)) (l1 : List Int) (a2 : Int) : Option (List Int × Int) := (dropperref06_After.f k a0_0 l0_1 l1 (([a2] : List Int))).bind fun bt519 => (some (bt519.1, bt519.2))
/-! ### key_IsPlay: function 45 -/
def key_IsPlay.f (k : Nat) (a0_0 : Int) (l0_1 : List (S64)) (l1 : List Int) (l2 : List Int) : Option (Bool × Int) := (key_After.f k a0_0 l0_1 l1 l2).bind fun bt576 => (if bt576.2 = 5 then (some (false, 0)) else (some ((bt576.2 == 0), bt576.2)))
/-! ### dropperref06_IsPlay: function 46 -/
def dropperref06_IsPlay.f (k : Nat) (a0_0 : Int) (l0_1 : List (S64)) (l1 : List Int) (l2 : List Int) : Option (Bool × Int) := (dropperref06_After.f k a0_0 l0_1 l1 l2).bind fun bt581 => (if bt581.2 = 5 then (some (false, 0)) else (some ((bt581.2 == 0), bt581.2)))
end Go.Proofs.Ytgdfakmlpdeabaa.XKey
/- The laws of the keys: what is common. -/
namespace Go.Proofs.Ytgdfakmlpdeabaa.Keys
set_option linter.unusedVariables false
set_option linter.unusedSimpArgs false
open Go.RowKit Go.Proofs.Ytgdfakmlpdeabaa.XKey Go.Proofs.YtgdfakmlpdeabaaW.PrintWords Go.Proofs.YtgdfakmlpdeabaaW.PrintLast Go.Proofs.YtgdfakmlpdeabaaW.PrintMore
theorem ev_const {α : Type} {o : Option α} {r : α} (h : o = some r) : Ev (fun _ => o) r := ⟨0, fun _ _ => h⟩
theorem ev_pos {α : Type} {c : Prop} [Decidable c] {a b : Nat → Option α} {r : α} (hc : c) (h : Ev a r) : Ev (fun k => if c then a k else b k) r :=
 Ev.congr (fun k => if_pos hc) h
theorem ev_neg {α : Type} {c : Prop} [Decidable c] {a b : Nat → Option α} {r : α} (hc : ¬ c) (h : Ev b r) : Ev (fun k => if c then a k else b k) r :=
 Ev.congr (fun k => if_neg hc) h
theorem ev_some {α β : Type} {a : α} {f : Nat → α → Option β} {r : β} (h : Ev (fun k => f k a) r) : Ev (fun k => (some a).bind (f k)) r := h
theorem ev_bind1 {α β : Type} {g : Nat → Option α} {f : Nat → α → Option β} {a : α} {r : β} (h : Ev g a) (k : Ev (fun n => f n a) r) : Ev (fun n => (g n).bind (f n)) r := Ev.bind h k
theorem ev_val {α β : Type} {g : Option α} {f : Nat → α → Option β} {a : α} {r : β} (h : g = some a) (k : Ev (fun n => f n a) r) : Ev (fun n => g.bind (f n)) r := by subst h; exact k
theorem wrap_id {x : Int} (h0 : -9223372036854775808 ≤ x) (h1 : x ≤ 9223372036854775807) : wrap64 x = x := by unfold wrap64; omega
theorem wrap_succ {l : Nat} (n : Nat) (h : n < l) (hl : l ≤ 9223372036854775807) : wrap64 ((n : Int) + 1) = ((n + 1 : Nat) : Int) := by rw [wrap_id] <;> omega
theorem rd_at (xs : List Int) (i : Nat) (h : i < xs.length) : rd xs (i : Int) = xs[i] := by simp [rd, List.getD_eq_getElem?_getD, h]
theorem rd_L (xs : List (List Int)) (i : Nat) (h : i < xs.length) : rd_L1 xs (i : Int) = xs[i] := by simp [rd_L1, List.getD_eq_getElem?_getD, h]
theorem rd_S (xs : List S64) (i : Nat) (h : i < xs.length) : rd_T64 xs (i : Int) = xs[i] := by simp [rd_T64, List.getD_eq_getElem?_getD, h]
theorem ev_loop {α β : Type} {l : List α} (hl : l.length ≤ 9223372036854775807) {F : Nat → Int → Option β} (g : List α → β)
  (hend : Ev (fun k => F k (l.length : Int)) (g []))
  (hstep : ∀ i (h : i < l.length), wrap64 ((i : Int) + 1) = ((i + 1 : Nat) : Int) → Ev (fun k => F k ((i + 1 : Nat) : Int)) (g (l.drop (i + 1))) → Ev (fun k => F k (i : Int)) (g (l[i] :: l.drop (i + 1)))) : Ev (fun k => F k 0) (g l) := by
 have H : ∀ (d i : Nat), i + d = l.length → Ev (fun k => F k (i : Int)) (g (l.drop i)) := by
  intro d
  induction d with
  | zero =>
   intro i hi
   have e : i = l.length := by omega
   subst e
   rw [List.drop_length]
   exact hend
  | succ d ih =>
   intro i hi
   rw [List.drop_eq_getElem_cons (by omega)]
   exact hstep i (by omega) (wrap_succ i (by omega) hl) (ih (i + 1) (by omega))
 exact H l.length 0 (by omega)
/-! ### lists of numbers -/
theorem same_refl (l : List Int) (hl : l.length ≤ 9223372036854775807) : Ev (fun k => dropperlaw06_SameInts.f k l l) true := by
 unfold dropperlaw06_SameInts.f
 refine ev_pos rfl ?_
 refine ev_loop (l := l) hl (F := fun k i => dropperlaw06_SameInts.l0 k l l i) (fun _ => true) ?_ ?_
 ·
  refine Ev.step (fun k => by rw [dropperlaw06_SameInts.l0]) (ev_neg (by omega) ?_); exact Ev.now _
 ·
  intro i h hw ih
  refine Ev.step (fun k => by rw [dropperlaw06_SameInts.l0]) (ev_pos (by omega) (ev_pos (by omega) (ev_pos (by omega) (ev_pos rfl ?_))))
  rw [hw]; exact ih
theorem large_ev (n : Int) (ts : List S64) (ls : List (List Int)) (h1 : ts.length ≤ 9223372036854775807) (h2 : ls.length ≤ 9223372036854775807) : ∃ b, Ev (fun k => dropperlaw06_Large.f k n ts ls) b := by
 unfold dropperlaw06_Large.f
 have H2 : Ev (fun k => dropperlaw06_Large.l1 k ls 0 n ts) (ls.any (fun l => decide ((l.length : Int) > 20)) || decide ((ts.length : Int) > 20)) := by
  refine ev_loop (l := ls) h2 (F := fun k i => dropperlaw06_Large.l1 k ls i n ts) (fun r => r.any (fun l => decide ((l.length : Int) > 20)) || decide ((ts.length : Int) > 20)) ?_ ?_
  ·
   refine Ev.step (fun k => by rw [dropperlaw06_Large.l1]) (ev_neg (by omega) ?_); exact Ev.now _
  ·
   intro i h hw ih
   refine Ev.step (fun k => by rw [dropperlaw06_Large.l1]) (ev_pos (by omega) (ev_pos (by omega) ?_))
   rw [rd_L ls i h, List.any_cons]
   by_cases hc : (ls[i].length : Int) > 20
   ·
    rw [decide_eq_true hc]; exact ev_pos hc (Ev.now _)
   ·
    rw [decide_eq_false hc, Bool.false_or]; refine ev_neg hc ?_; rw [hw]; exact ih
 refine ⟨_, ev_loop (l := ts) h1 (F := fun k i => dropperlaw06_Large.l0 k ls i n ts) (fun r => r.any (fun t => decide ((t.f0.length : Int) > 20) || decide ((t.f1.length : Int) > 20)) || (ls.any (fun l => decide ((l.length : Int) > 20)) || decide ((ts.length : Int) > 20))) ?_ ?_⟩
 ·
  refine Ev.step (fun k => by rw [dropperlaw06_Large.l0]) (ev_neg (by omega) ?_)
  exact H2
 ·
  intro i h hw ih
  refine Ev.step (fun k => by rw [dropperlaw06_Large.l0]) (ev_pos (by omega) (ev_pos (by omega) ?_))
  rw [rd_S ts i h, List.any_cons]
  by_cases hc : (ts[i].f0.length : Int) > 20
  ·
   rw [decide_eq_true hc]; exact ev_pos hc (Ev.now _)
  ·
   rw [decide_eq_false hc, Bool.false_or]; refine ev_neg hc ?_
   by_cases hd : (ts[i].f1.length : Int) > 20
   ·
    rw [decide_eq_true hd]; exact ev_pos hd (Ev.now _)
   ·
    rw [decide_eq_false hd, Bool.false_or]; refine ev_neg hd ?_; rw [hw]; exact ih
def okL (n lo hi : Int) (l : List Int) : Bool := decide ((l.length : Int) = n) && !(l.any (key_isList.bad lo hi))
theorem from_val (a b c : Int) : dropperref06_from.f a b c = some (decide (a ≤ b) && decide (b ≤ c)) := by
 unfold dropperref06_from.f
 by_cases h : a ≤ b
 ·
  rw [if_pos h, decide_eq_true h, Bool.true_and]
 ·
  rw [if_neg h, decide_eq_false h, Bool.false_and]
theorem rlist_ev (l : List Int) (n lo hi : Int) (hl : l.length ≤ 9223372036854775807) : Ev (fun k => dropperref06_list.f k l n lo hi) (okL n lo hi l) := by
 unfold dropperref06_list.f okL
 refine ev_loop (l := l) hl (F := fun k i => dropperref06_list.l0 k l n lo hi i) (fun r => decide ((l.length : Int) = n) && !(r.any (key_isList.bad lo hi))) ?_ ?_
 ·
  refine Ev.step (fun k => by rw [dropperref06_list.l0]) (ev_neg (by omega) ?_)
  refine ev_const (congrArg some ?_)
  simp only [List.any_nil, Bool.not_false, Bool.and_true]
  by_cases h : (l.length : Int) = n
  ·
   rw [decide_eq_true h]; simp [h]
  ·
   rw [decide_eq_false h]; simpa using h
 ·
  intro i h hw ih
  refine Ev.step (fun k => by rw [dropperref06_list.l0]) (ev_pos (by omega) (ev_pos (by omega) (ev_val (from_val _ _ _) ?_)))
  rw [rd_at l i h, List.any_cons, key_isList.bad]
  cases hb : (decide (lo ≤ l[i]) && decide (l[i] ≤ hi)) with
  | true => refine ev_pos rfl ?_; rw [Bool.not_true, Bool.false_or, hw]; exact ih
  | false => refine ev_neg (by decide) ?_; rw [Bool.not_false, Bool.true_or, Bool.not_true, Bool.and_false]; exact Ev.now _
theorem okL_iff (n lo hi : Int) (l : List Int) : okL n lo hi l = true ↔ (l.length : Int) = n ∧ ∀ x ∈ l, lo ≤ x ∧ x ≤ hi := by
 simp [okL, key_isList.bad]
/-! ### boards -/
def okT (n : Int) (t : S64) : Bool := okL n 0 3 t.f0 && okL n 0 3 t.f1
def okB (n : Int) (ts : List S64) : Bool := ((decide (1 ≤ n) && decide (n ≤ 6)) && decide ((ts.length : Int) ≤ 8)) && ts.all (okT n)
theorem bad_eq (n : Int) (t : S64) : key_Valid.bad n t = !(okT n t) := by simp [key_Valid.bad, okT, okL]
theorem Valid_val (n : Int) (ts : List S64) : key_Valid.f n ts = some (okB n ts) := by
 unfold key_Valid.f okB
 rw [show key_Valid.bad n = fun t => !(okT n t) from funext (bad_eq n)]
 simp [List.all_eq_not_any_not]
def Fits (ts : List S64) : Prop := ts.length ≤ 9223372036854775807 ∧ ∀ t ∈ ts, t.f0.length ≤ 9223372036854775807 ∧ t.f1.length ≤ 9223372036854775807
theorem rValid_ev (n : Int) (ts : List S64) (hf : Fits ts) : Ev (fun k => dropperref06_Valid.f k n ts) (okB n ts) := by
 unfold dropperref06_Valid.f okB
 refine ev_val (from_val _ _ _) ?_
 have HJ : Ev (fun k => dropperref06_Valid.j0 k true n ts) false := Ev.step (fun k => by rw [dropperref06_Valid.j0]) (ev_pos rfl (Ev.now _))
 cases hb : (decide (1 ≤ n) && decide (n ≤ 6)) with
 | false => refine ev_neg (by decide) ?_; simpa using HJ
 | true =>
  refine ev_pos rfl ?_
  by_cases hl : (ts.length : Int) ≤ 8
  ·
   rw [decide_eq_true hl, decide_eq_false (show ¬ (ts.length : Int) > 8 by omega)]
   refine Ev.step (fun k => by rw [dropperref06_Valid.j0]) (ev_neg (by decide) ?_)
   simp only [Bool.true_and]
   refine ev_loop (l := ts) hf.1 (F := fun k i => dropperref06_Valid.l0 k i n ts) (fun r => r.all (okT n)) ?_ ?_
   ·
    refine Ev.step (fun k => by rw [dropperref06_Valid.l0]) (ev_neg (by omega) ?_); exact Ev.now _
   ·
    intro i h hw ih
    have hfi := hf.2 ts[i] (List.getElem_mem h)
    refine Ev.step (fun k => by rw [dropperref06_Valid.l0]) (ev_pos (by omega) (ev_pos (by omega) ?_))
    rw [rd_S ts i h, List.all_cons]
    refine ev_bind1 (rlist_ev _ _ _ _ hfi.1) ?_
    cases h0 : okL n 0 3 ts[i].f0 with
    | false => refine ev_neg (by decide) ?_; rw [okT, h0]; exact Ev.now _
    | true =>
     refine ev_pos rfl (ev_bind1 (rlist_ev _ _ _ _ hfi.2) ?_)
     cases h1 : okL n 0 3 ts[i].f1 with
     | false => refine ev_neg (by decide) ?_; rw [okT, h0, h1]; exact Ev.now _
     | true => refine ev_pos rfl ?_; rw [okT, h0, h1, hw]; exact ih
  ·
   rw [decide_eq_false hl, decide_eq_true (show (ts.length : Int) > 8 by omega)]
   simpa using HJ
end Go.Proofs.Ytgdfakmlpdeabaa.Keys

/- Moves: program and reference reckon alike. -/
namespace Go.Proofs.Ytgdfakmlpdeabaa.Keys
set_option linter.unusedVariables false
set_option linter.unusedSimpArgs false
open Go.RowKit Go.Proofs.Ytgdfakmlpdeabaa.XKey Go.Proofs.YtgdfakmlpdeabaaW.PrintWords Go.Proofs.YtgdfakmlpdeabaaW.PrintLast Go.Proofs.YtgdfakmlpdeabaaW.PrintMore
def asks (n : Int) (ts : List S64) (ls : List (List Int)) : Int := if okB n ts = true then (if ls.all (okL n 0 100) = true then 0 else 61) else 60
theorem open_val (n : Int) (ts : List S64) (ls : List (List Int)) : key_open.f n ts ls = some (asks n ts ls) := by
 unfold key_open.f asks
 rw [Valid_val, Option.bind_some]
 have h : ls.any (key_open.bad n) = !(ls.all (okL n 0 100)) := by
  rw [show key_open.bad n = fun l => !(okL n 0 100 l) from rfl]
  simp [List.all_eq_not_any_not]
 cases okB n ts with
 | false => rw [if_neg (by decide), if_neg (by decide)]
 | true =>
  rw [if_pos rfl, if_pos rfl, h]
  cases ls.all (okL n 0 100) <;> rfl
theorem Keys_ev (n : Int) (ts : List S64) (l : List Int) (hl : l.length ≤ 9223372036854775807) : Ev (fun k => dropperref06_Keys.f k n ts l) (okL n 0 100 l) := by
 unfold dropperref06_Keys.f
 exact ev_bind1 (rlist_ev l n 0 100 hl) (Ev.now _)
theorem asked_ev (n : Int) (ts : List S64) (ls : List (List Int)) (hf : Fits ts) (h1 : ls.length ≤ 9223372036854775807) (h2 : ∀ l ∈ ls, l.length ≤ 9223372036854775807) : Ev (fun k => dropperref06_asked.f k n ts ls) (asks n ts ls) := by
 unfold dropperref06_asked.f asks
 refine ev_bind1 (rValid_ev n ts hf) ?_
 cases okB n ts with
 | false => exact ev_neg (by decide) (Ev.now _)
 | true =>
  refine ev_pos rfl ?_
  rw [if_pos rfl]
  refine ev_loop (l := ls) h1 (F := fun k i => dropperref06_asked.l0 k ls i n ts) (fun r => if r.all (okL n 0 100) = true then 0 else 61) ?_ ?_
  ·
   refine Ev.step (fun k => by rw [dropperref06_asked.l0]) (ev_neg (by omega) ?_); exact Ev.now _
  ·
   intro i h hw ih
   refine Ev.step (fun k => by rw [dropperref06_asked.l0]) (ev_pos (by omega) (ev_pos (by omega) ?_))
   rw [rd_L ls i h, List.all_cons]
   refine ev_bind1 (Keys_ev n ts _ (h2 _ (List.getElem_mem h))) ?_
   cases okL n 0 100 ls[i] with
   | false => exact ev_neg (by decide) (Ev.now _)
   | true => refine ev_pos rfl ?_; rw [Bool.true_and, hw]; exact ih
def mv : List Int → List Int → List Int → Option (List Int)
 | x :: xs, n :: ns, g :: gs => if x < n ∨ 100 < x - n + g then none else (mv xs ns gs).map fun r => (x - n + g) :: r
 | _, _, _ => some []
theorem mv_len : ∀ {xs ns gs r : List Int}, mv xs ns gs = some r → xs.length = ns.length → xs.length = gs.length → r.length = xs.length
 | [], [], [], r, h, _, _ => by cases h; rfl
 | x :: xs, n :: ns, g :: gs, r, h, h1, h2 => by
  rw [mv] at h
  split at h
  ·
   cases h
  ·
   obtain ⟨q, e, rfl⟩ := Option.map_eq_some_iff.1 h
   have := mv_len e (by simpa using h1) (by simpa using h2)
   simp [this]
def In (lo hi : Int) (l : List Int) : Prop := ∀ x ∈ l, lo ≤ x ∧ x ≤ hi
theorem mv_in : ∀ {xs ns gs r : List Int}, mv xs ns gs = some r → In 0 100 xs → In 0 3 ns → In 0 3 gs → In 0 100 r
 | x :: xs, n :: ns, g :: gs, r, h, h1, h2, h3 => by
  rw [mv] at h
  split at h
  ·
   cases h
  ·
   rename_i hc
   obtain ⟨q, e, rfl⟩ := Option.map_eq_some_iff.1 h
   have hq := mv_in e (fun y hy => h1 y (List.mem_cons_of_mem _ hy)) (fun y hy => h2 y (List.mem_cons_of_mem _ hy)) (fun y hy => h3 y (List.mem_cons_of_mem _ hy))
   have := h1 x (List.mem_cons_self ..); have := h2 n (List.mem_cons_self ..); have := h3 g (List.mem_cons_self ..)
   intro y hy
   rcases List.mem_cons.1 hy with rfl | hy
   ·
    omega
   ·
    exact hq y hy
 | [], _, _, r, h, _, _, _ => by simp [mv] at h; subst h; intro y hy; cases hy
 | _ :: _, [], _, r, h, _, _, _ => by simp [mv] at h; subst h; intro y hy; cases hy
 | _ :: _, _ :: _, [], r, h, _, _, _ => by simp [mv] at h; subst h; intro y hy; cases hy
theorem mv_back : ∀ {xs ns gs r : List Int}, mv xs ns gs = some r → xs.length = ns.length → xs.length = gs.length → In 0 100 xs → In 0 3 ns → In 0 3 gs → mv r gs ns = some xs
 | [], [], [], r, h, _, _, _, _, _ => by cases h; rfl
 | x :: xs, n :: ns, g :: gs, r, h, l1, l2, h1, h2, h3 => by
  rw [mv] at h
  split at h
  ·
   cases h
  ·
   rename_i hc
   obtain ⟨q, e, rfl⟩ := Option.map_eq_some_iff.1 h
   have hq := mv_back e (by simpa using l1) (by simpa using l2) (fun y hy => h1 y (List.mem_cons_of_mem _ hy)) (fun y hy => h2 y (List.mem_cons_of_mem _ hy)) (fun y hy => h3 y (List.mem_cons_of_mem _ hy))
   have := h1 x (List.mem_cons_self ..); have := h2 n (List.mem_cons_self ..); have := h3 g (List.mem_cons_self ..)
   rw [mv, if_neg (by omega), hq]
   simp only [Option.map_some]
   congr 2
   omega
theorem made_go : ∀ {ns xs p z g : List Int}, xs.length = ns.length → xs.length = (g.drop p.length).length → p.length + ns.length ≤ 6 → In 0 100 xs → In 0 3 ns → In 0 3 (g.drop p.length) →
  key_keys_made.go ns (p.length : Int) g (p ++ xs ++ z) = some (match mv xs ns (g.drop p.length) with | none => ([0, 0, 0, 0, 0, 0], false) | some r => (p ++ r ++ z, true))
 | [], [], p, z, g, _, hg, _, _, _, _ => by
  have : g.drop p.length = [] := List.eq_nil_of_length_eq_zero hg.symm
  rw [key_keys_made.go, mv]
  simp
 | n :: ns, x :: xs, p, z, g, h1, h2, h6, hx, hn, hg => by
  have hlt : p.length < g.length := by simp at h2; omega
  have hd : g.drop p.length = g[p.length] :: g.drop (p.length + 1) := List.drop_eq_getElem_cons hlt
  have e1 : rd (p ++ (x :: xs) ++ z) (p.length : Int) = x := by rw [rd_at _ _ (by simp)]; simp [List.getElem_append]
  have e2 : rd g (p.length : Int) = g[p.length] := rd_at _ _ hlt
  rw [hd] at hg h2 ⊢
  have b1 := hx x (List.mem_cons_self ..); have b2 := hn n (List.mem_cons_self ..); have b3 := hg g[p.length] (List.mem_cons_self ..)
  rw [key_keys_made.go, if_pos (by simp at h6; omega), e1, e2, mv]
  have w1 : wrap64 (wrap64 (x - n) + g[p.length]) = x - n + g[p.length] := by rw [wrap_id (x := x - n) (by omega) (by omega), wrap_id (by omega) (by omega)]
  have w2 : wrap64 (x + wrap64 (g[p.length] - n)) = x - n + g[p.length] := by rw [wrap_id (x := g[p.length] - n) (by omega) (by omega), wrap_id (by omega) (by omega)]; omega
  rw [w2]
  have hbad : key_keys_made.bad x n g[p.length] ↔ (x < n ∨ 100 < x - n + g[p.length]) := by
   show (x < n ∨ 100 < wrap64 (wrap64 (x - n) + g[p.length])) ↔ _
   rw [w1]
  by_cases hc : x < n ∨ 100 < x - n + g[p.length]
  ·
   rw [if_pos (hbad.2 hc), if_pos hc]
  ·
   rw [if_neg (fun h => hc (hbad.1 h)), if_neg hc]
   have es : (p ++ (x :: xs) ++ z).set (p.length : Int).toNat (x - n + g[p.length]) = (p ++ [x - n + g[p.length]]) ++ xs ++ z := by simp
   have ep : ((p.length : Int) + 1) = ((p ++ [x - n + g[p.length]]).length : Int) := by simp
   have hl : (p ++ [x - n + g[p.length]]).length = p.length + 1 := by simp
   rw [es, ep]
   have hr := made_go (ns := ns) (xs := xs) (p := p ++ [x - n + g[p.length]]) (z := z) (g := g) (by simpa using h1) (by rw [hl]; simp at h2 ⊢; omega) (by rw [hl]; simp at h6; omega) (fun y hy => hx y (List.mem_cons_of_mem _ hy)) (fun y hy => hn y (List.mem_cons_of_mem _ hy)) (by rw [hl]; exact fun y hy => hg y (List.mem_cons_of_mem _ hy))
   rw [hr, hl]
   cases mv xs ns (g.drop (p.length + 1)) with
   | none => rfl
   | some r => simp
theorem six_app : ∀ (xs : List Int), xs.length ≤ 6 → six xs = xs ++ List.replicate (6 - xs.length) 0
 | [], _ => rfl
 | [_], _ => rfl
 | [_, _], _ => rfl
 | [_, _, _], _ => rfl
 | [_, _, _, _], _ => rfl
 | [_, _, _, _, _], _ => rfl
 | [_, _, _, _, _, _], _ => rfl
 | _ :: _ :: _ :: _ :: _ :: _ :: _ :: _, h => by simp at h
theorem six_rd (xs : List Int) (h : xs.length ≤ 6) (i : Int) : rd (xs ++ List.replicate (6 - xs.length) 0) i = rd xs i := by
 simp only [rd, List.getD_eq_getElem?_getD, List.getElem?_append]
 split
 ·
  rfl
 ·
  rename_i hc
  rw [List.getElem?_eq_none (by omega : xs.length ≤ i.toNat)]
  rw [List.getElem?_replicate]
  split <;> rfl
theorem made_val (xs ns gs : List Int) (h1 : xs.length = ns.length) (h2 : xs.length = gs.length) (h6 : xs.length ≤ 6) (hx : In 0 100 xs) (hn : In 0 3 ns) (hg : In 0 3 gs) :
  key_keys_made.f (rd xs 0) (rd xs 1) (rd xs 2) (rd xs 3) (rd xs 4) (rd xs 5) ns gs = some (match mv xs ns gs with | none => (0, 0, 0, 0, 0, 0, false) | some r => (rd r 0, rd r 1, rd r 2, rd r 3, rd r 4, rd r 5, true)) := by
 unfold key_keys_made.f
 have e := six_app xs h6
 rw [six] at e
 rw [e]
 have h := made_go (ns := ns) (xs := xs) (p := []) (z := List.replicate (6 - xs.length) 0) (g := gs) h1 (by simpa using h2) (by simpa using (h1 ▸ h6)) hx hn (by simpa using hg)
 simp only [List.nil_append, List.length_nil, List.drop_zero, Int.ofNat_zero] at h
 rw [h]
 cases hm : mv xs ns gs with
 | none => rfl
 | some r =>
  have hl := mv_len hm h1 h2
  simp only [Option.map_some]
  rw [← hl]
  simp only [six_rd r (by omega)]
theorem list_val (xs : List Int) (n : Int) (h : (xs.length : Int) = n) (h6 : xs.length ≤ 6) : key_keys_list.f (rd xs 0) (rd xs 1) (rd xs 2) (rd xs 3) (rd xs 4) (rd xs 5) n = some xs := by
 unfold key_keys_list.f
 have e := six_app xs h6
 rw [six] at e
 rw [if_pos (by omega), e, ← h]
 simp
theorem after_ev (xs ns gs : List Int) (h1 : xs.length = ns.length) (h2 : xs.length = gs.length) (h6 : xs.length ≤ 6) (hx : In 0 100 xs) (hn : In 0 3 ns) (hg : In 0 3 gs) :
  Ev (fun k => dropperref06_after.f k ns gs xs) (match mv xs ns gs with | none => ([], false) | some r => (r, true)) := by
 unfold dropperref06_after.f
 have H : ∀ (d i : Nat) (acc : List Int), i + d = xs.length → acc.length ≤ i → Ev (fun k => dropperref06_after.l0 k xs acc (i : Int) ns gs) (match mv (xs.drop i) (ns.drop i) (gs.drop i) with | none => ([], false) | some r => (acc ++ r, true)) := by
  intro d
  induction d with
  | zero =>
   intro i acc hi ha
   rw [List.drop_eq_nil_of_le (by omega : xs.length ≤ i), mv]
   ·
    refine Ev.step (fun k => by rw [dropperref06_after.l0]) (ev_neg (by omega) ?_)
    simp only [List.append_nil]; exact Ev.now _
   ·
    intro _ _ _ _ _ _ h; cases h
  | succ d ih =>
   intro i acc hi ha
   have hx0 := hx xs[i] (List.getElem_mem _); have hn0 := hn ns[i] (List.getElem_mem _); have hg0 := hg gs[i] (List.getElem_mem _)
   refine Ev.step (fun k => by rw [dropperref06_after.l0]) (ev_pos (by omega) (ev_pos (by omega) (ev_pos (by omega) ?_)))
   rw [rd_at xs i (by omega), rd_at ns i (by omega), rd_at gs i (by omega)]
   rw [List.drop_eq_getElem_cons (by omega : i < xs.length), List.drop_eq_getElem_cons (by omega : i < ns.length), List.drop_eq_getElem_cons (by omega : i < gs.length), mv]
   rw [wrap_id (x := xs[i] - ns[i]) (by omega) (by omega), wrap_id (x := xs[i] - ns[i] + gs[i]) (by omega) (by omega)]
   by_cases c1 : xs[i] < ns[i]
   ·
    rw [if_pos (Or.inl c1)]; exact ev_pos (by omega) (Ev.now _)
   refine ev_neg (by omega) (ev_pos (by omega) ?_)
   by_cases c2 : 100 < xs[i] - ns[i] + gs[i]
   ·
    rw [if_pos (Or.inr c2)]; exact ev_pos (by omega) (Ev.now _)
   rw [if_neg (by omega)]
   refine ev_neg (by omega) (ev_pos (by omega) ?_)
   rw [wrap_succ (l := xs.length) i (by omega) (by omega)]
   have := ih (i + 1) (acc ++ [xs[i] - ns[i] + gs[i]]) (by omega) (by simp; omega)
   cases hm : mv (xs.drop (i + 1)) (ns.drop (i + 1)) (gs.drop (i + 1)) with
   | none => rw [hm] at this; exact this
   | some r => rw [hm] at this; simpa using this
 have := H xs.length 0 [] (by omega) (by simp)
 simpa using this
end Go.Proofs.Ytgdfakmlpdeabaa.Keys

/- Plays: program and reference reckon alike. -/
namespace Go.Proofs.Ytgdfakmlpdeabaa.Keys
set_option linter.unusedVariables false
set_option linter.unusedSimpArgs false
open Go.RowKit Go.Proofs.Ytgdfakmlpdeabaa.XKey Go.Proofs.YtgdfakmlpdeabaaW.PrintWords Go.Proofs.YtgdfakmlpdeabaaW.PrintLast Go.Proofs.YtgdfakmlpdeabaaW.PrintMore
theorem okT_iff (n : Int) (t : S64) : okT n t = true ↔ ((t.f0.length : Int) = n ∧ In 0 3 t.f0) ∧ ((t.f1.length : Int) = n ∧ In 0 3 t.f1) := by
 rw [okT, Bool.and_eq_true, okL_iff, okL_iff]; exact Iff.rfl
theorem okB_iff (n : Int) (ts : List S64) : okB n ts = true ↔ (1 ≤ n ∧ n ≤ 6) ∧ ts.length ≤ 8 ∧ ∀ t ∈ ts, okT n t = true := by
 simp only [okB, Bool.and_eq_true, decide_eq_true_eq, List.all_eq_true]
 constructor
 ·
  rintro ⟨⟨⟨a, b⟩, c⟩, d⟩; exact ⟨⟨a, b⟩, by omega, d⟩
 ·
  rintro ⟨⟨a, b⟩, c, d⟩; exact ⟨⟨⟨a, b⟩, by omega⟩, d⟩
theorem asks_zero {n : Int} {ts : List S64} {ls : List (List Int)} (h : asks n ts ls = 0) : okB n ts = true ∧ ∀ l ∈ ls, okL n 0 100 l = true := by
 unfold asks at h
 split at h
 ·
  split at h
  ·
   rename_i h1 h2; exact ⟨h1, List.all_eq_true.1 h2⟩
  ·
   omega
 ·
  omega
theorem asks_two {n : Int} {ts : List S64} {ls : List (List Int)} : asks n ts ls = 0 ∨ asks n ts ls = 60 ∨ asks n ts ls = 61 := by
 unfold asks; split
 ·
  split <;> simp
 ·
  simp
structure St (n : Int) (l : List Int) : Prop where
 len : (l.length : Int) = n
 rng : In 0 100 l
theorem St.of {n : Int} {l : List Int} (h : okL n 0 100 l = true) : St n l := ⟨((okL_iff _ _ _ _).1 h).1, ((okL_iff _ _ _ _).1 h).2⟩
theorem St.mk' {n : Int} {l : List Int} (h : St n l) : okL n 0 100 l = true := (okL_iff _ _ _ _).2 ⟨h.len, h.rng⟩
theorem St.mv {n : Int} {l r : List Int} {t : S64} (h : St n l) (ht : okT n t = true) (e : mv l t.f0 t.f1 = some r) : St n r := by
 obtain ⟨⟨a, b⟩, c, d⟩ := (okT_iff n t).1 ht
 have h1 := h.len
 refine ⟨?_, mv_in e h.rng b d⟩
 rw [mv_len e (by omega) (by omega)]; exact h.len
theorem made_st {n : Int} {l : List Int} {t : S64} (hn : n ≤ 6) (h : St n l) (ht : okT n t = true) :
  key_keys_made.f (rd l 0) (rd l 1) (rd l 2) (rd l 3) (rd l 4) (rd l 5) t.f0 t.f1 = some (match mv l t.f0 t.f1 with | none => (0, 0, 0, 0, 0, 0, false) | some r => (rd r 0, rd r 1, rd r 2, rd r 3, rd r 4, rd r 5, true)) := by
 obtain ⟨⟨a, b⟩, c, d⟩ := (okT_iff n t).1 ht
 have h1 := h.len
 exact made_val l t.f0 t.f1 (by omega) (by omega) (by omega) h.rng b d
theorem after_st {n : Int} {l : List Int} {t : S64} (hn : n ≤ 6) (h : St n l) (ht : okT n t = true) :
  Ev (fun k => dropperref06_after.f k t.f0 t.f1 l) (match mv l t.f0 t.f1 with | none => ([], false) | some r => (r, true)) := by
 obtain ⟨⟨a, b⟩, c, d⟩ := (okT_iff n t).1 ht
 have h1 := h.len
 exact after_ev l t.f0 t.f1 (by omega) (by omega) (by omega) h.rng b d
theorem list_st {n : Int} {l : List Int} (hn : n ≤ 6) (h : St n l) : key_keys_list.f (rd l 0) (rd l 1) (rd l 2) (rd l 3) (rd l 4) (rd l 5) n = some l := list_val l n h.len (by have := h.len; omega)
def plays (ts : List S64) : List Int → List Int → Option (List Int)
 | x, [] => some x
 | x, a :: ms => (mv x (rd_T64 ts a).f0 (rd_T64 ts a).f1).bind fun y => plays ts y ms
def playsS (ts : List S64) (l ms : List Int) : List Int × Int := match plays ts l ms with | none => ([], 5) | some r => (r, 0)
def AfterS (n : Int) (ts : List S64) (l ms : List Int) : List Int × Int :=
 if asks n ts [l] = 0 then (if (ms.length : Int) > 1000 then ([], 2) else if okL (ms.length : Int) 0 (wrap64 ((ts.length : Int) - 1)) ms = true then playsS ts l ms else ([], 2)) else ([], asks n ts [l])
theorem isList_val (l : List Int) (n lo hi : Int) : key_isList.f l n lo hi = some (okL n lo hi l) := rfl
def Names (ts : List S64) (ms : List Int) : Prop := ∀ a ∈ ms, 0 ≤ a ∧ a < (ts.length : Int)
theorem names_of {ts : List S64} {ms : List Int} (h8 : ts.length ≤ 8) (h : okL (ms.length : Int) 0 (wrap64 ((ts.length : Int) - 1)) ms = true) : Names ts ms := by
 have := ((okL_iff _ _ _ _).1 h).2
 rw [wrap_id (by omega) (by omega)] at this
 intro a ha
 have := this a ha
 omega
theorem of_names {ts : List S64} {ms : List Int} (h8 : ts.length ≤ 8) (h : Names ts ms) : okL (ms.length : Int) 0 (wrap64 ((ts.length : Int) - 1)) ms = true := by
 rw [okL_iff, wrap_id (by omega) (by omega)]
 refine ⟨rfl, fun a ha => ?_⟩
 have := h a ha
 omega
theorem okT_at {n : Int} {ts : List S64} (hts : ∀ t ∈ ts, okT n t = true) {a : Int} (h0 : 0 ≤ a) (h1 : a < (ts.length : Int)) : okT n (rd_T64 ts a) = true := by
 obtain ⟨i, rfl⟩ := Int.eq_ofNat_of_zero_le h0
 rw [rd_S ts i (by omega)]
 exact hts _ (List.getElem_mem _)
theorem kplay_ev {n : Int} {ts : List S64} (hn : n ≤ 6) (hts : ∀ t ∈ ts, okT n t = true) (ms : List Int) (hN : Names ts ms) (hl : ms.length ≤ 1000) :
  ∀ (d i : Nat) (l : List Int), i + d = ms.length → St n l → Ev (fun k => key_After.l0 k ms (ms.length : Int) (i : Int) n ts (rd l 0) (rd l 1) (rd l 2) (rd l 3) (rd l 4) (rd l 5)) (playsS ts l (ms.drop i)) := by
 intro d
 induction d with
 | zero =>
  intro i l hi h
  rw [List.drop_eq_nil_of_le (by omega : ms.length ≤ i)]
  refine Ev.step (fun k => by rw [key_After.l0]) (ev_neg (by omega) (ev_val (list_st hn h) ?_))
  exact Ev.now _
 | succ d ih =>
  intro i l hi h
  have hlt : i < ms.length := by omega
  have ha := hN ms[i] (List.getElem_mem hlt)
  have ht := okT_at hts ha.1 ha.2
  rw [List.drop_eq_getElem_cons hlt]
  refine Ev.step (fun k => by rw [key_After.l0]) (ev_pos (by omega) (ev_pos (by omega) (ev_pos (by omega) ?_)))
  rw [rd_at ms i hlt]
  refine ev_pos ha.1 (ev_pos ha.2 (ev_val (made_st hn h ht) ?_))
  unfold playsS
  rw [plays]
  cases hm : mv l (rd_T64 ts ms[i]).f0 (rd_T64 ts ms[i]).f1 with
  | none => exact ev_neg (by decide) (Ev.now _)
  | some r =>
   refine ev_pos rfl ?_
   rw [wrap_succ (l := ms.length) i hlt (by omega)]
   exact ih (i + 1) r (by omega) (h.mv ht hm)
theorem After_ev (n : Int) (ts : List S64) (l ms : List Int) : Ev (fun k => key_After.f k n ts l ms) (AfterS n ts l ms) := by
 unfold key_After.f AfterS
 refine ev_val (open_val n ts [l]) ?_
 by_cases h0 : asks n ts [l] = 0
 ·
  rw [if_pos h0]
  refine ev_pos h0 ?_
  by_cases h1 : (ms.length : Int) > 1000
  ·
   rw [if_pos h1]; exact ev_pos h1 (Ev.now _)
  rw [if_neg h1]
  refine ev_neg h1 (ev_val (isList_val _ _ _ _) ?_)
  by_cases h2 : okL (ms.length : Int) 0 (wrap64 ((ts.length : Int) - 1)) ms = true
  ·
   rw [if_pos h2]
   refine ev_pos h2 (ev_val rfl ?_)
   obtain ⟨hb, hls⟩ := asks_zero h0
   obtain ⟨⟨b1, b2⟩, b3, b4⟩ := (okB_iff n ts).1 hb
   have := kplay_ev b2 b4 ms (names_of b3 h2) (by omega) ms.length 0 l (by omega) (St.of (hls l (by simp)))
   rw [List.drop_zero] at this
   exact this
  ·
   rw [if_neg h2]; exact ev_neg h2 (Ev.now _)
 ·
  rw [if_neg h0]; exact ev_neg h0 (Ev.now _)
theorem rplay_ev {n : Int} {ts : List S64} (hn : n ≤ 6) (hts : ∀ t ∈ ts, okT n t = true) (ms : List Int) (hN : Names ts ms) (hl : ms.length ≤ 1000) :
  ∀ (d i : Nat) (l : List Int), i + d = ms.length → St n l → Ev (fun k => dropperref06_play.l0 k ms l (i : Int) n ts) (match plays ts l (ms.drop i) with | none => ([], true, false) | some r => (r, true, true)) := by
 intro d
 induction d with
 | zero =>
  intro i l hi h
  rw [List.drop_eq_nil_of_le (by omega : ms.length ≤ i)]
  refine Ev.step (fun k => by rw [dropperref06_play.l0]) (ev_neg (by omega) ?_)
  exact Ev.now _
 | succ d ih =>
  intro i l hi h
  have hlt : i < ms.length := by omega
  have ha := hN ms[i] (List.getElem_mem hlt)
  have ht := okT_at hts ha.1 ha.2
  rw [List.drop_eq_getElem_cons hlt]
  refine Ev.step (fun k => by rw [dropperref06_play.l0]) (ev_pos (by omega) (ev_pos (by omega) ?_))
  rw [rd_at ms i hlt]
  refine ev_pos ha.1 (ev_pos ha.2 (ev_bind1 (after_st hn h ht) ?_))
  rw [plays]
  cases hm : mv l (rd_T64 ts ms[i]).f0 (rd_T64 ts ms[i]).f1 with
  | none => exact ev_neg (by decide) (Ev.now _)
  | some r =>
   refine ev_pos rfl ?_
   rw [wrap_succ (l := ms.length) i hlt (by omega)]
   exact ih (i + 1) r (by omega) (h.mv ht hm)
theorem rAfter_ev (n : Int) (ts : List S64) (l ms : List Int) (hf : Fits ts) (hl : l.length ≤ 9223372036854775807) (ha : ms.length ≤ 9223372036854775807) : Ev (fun k => dropperref06_After.f k n ts l ms) (AfterS n ts l ms) := by
 unfold dropperref06_After.f AfterS
 refine ev_bind1 (asked_ev n ts [l] hf (by simp) (by simpa using hl)) ?_
 by_cases h0 : asks n ts [l] = 0
 ·
  rw [if_pos h0]
  obtain ⟨hb, hls⟩ := asks_zero h0
  obtain ⟨⟨b1, b2⟩, b3, b4⟩ := (okB_iff n ts).1 hb
  have hst := St.of (hls l (by simp))
  have HJ : Ev (fun k => dropperref06_play.j0 k l ms true n ts) ([], false, false) := Ev.step (fun k => by rw [dropperref06_play.j0]) (ev_pos rfl (Ev.now _))
  refine ev_pos h0 ?_
  unfold dropperref06_play.f
  by_cases h1 : (ms.length : Int) > 1000
  ·
   rw [if_pos h1]
   refine ev_bind1 (a := ([], false, false)) (ev_pos h1 HJ) ?_
   exact ev_neg (by decide) (Ev.now _)
  rw [if_neg h1]
  by_cases h2 : okL (ms.length : Int) 0 (wrap64 ((ts.length : Int) - 1)) ms = true
  ·
   rw [if_pos h2]
   have hp := rplay_ev b2 b4 ms (names_of b3 h2) (by omega) ms.length 0 l (by omega) hst
   refine ev_bind1 (a := (match plays ts l ms with | none => ([], true, false) | some r => (r, true, true))) (ev_neg h1 (ev_bind1 (rlist_ev _ _ _ _ ha) ?_)) ?_
   ·
    rw [h2]
    refine Ev.step (fun k => by rw [dropperref06_play.j0]) ?_
    refine ev_neg (by decide) ?_
    refine ev_some ?_
    refine ev_pos ?_ ?_
    ·
     have := hst.len; simp; omega
    ·
     simpa using hp
   ·
    unfold playsS
    cases plays ts l ms with
    | none => exact ev_pos rfl (ev_neg (by decide) (Ev.now _))
    | some r => exact ev_pos rfl (ev_pos rfl (Ev.now _))
  ·
   rw [if_neg h2]
   refine ev_bind1 (a := ([], false, false)) (ev_neg h1 (ev_bind1 (rlist_ev _ _ _ _ ha) ?_)) ?_
   ·
    have h2' : okL (ms.length : Int) 0 (wrap64 ((ts.length : Int) - 1)) ms = false := by simpa using h2
    rw [h2']; exact HJ
   ·
    exact ev_neg (by decide) (Ev.now _)
 ·
  rw [if_neg h0]; exact ev_neg h0 (Ev.now _)
def IsS (p : List Int × Int) : Bool × Int := if p.2 = 5 then (false, 0) else (p.2 == 0, p.2)
theorem IsPlay_ev (n : Int) (ts : List S64) (l ms : List Int) : Ev (fun k => key_IsPlay.f k n ts l ms) (IsS (AfterS n ts l ms)) := by
 unfold key_IsPlay.f IsS
 refine ev_bind1 (After_ev n ts l ms) ?_
 by_cases h : (AfterS n ts l ms).2 = 5
 ·
  rw [if_pos h, if_pos h]; exact Ev.now _
 ·
  rw [if_neg h, if_neg h]; exact Ev.now _
theorem rIsPlay_ev (n : Int) (ts : List S64) (l ms : List Int) (hf : Fits ts) (hl : l.length ≤ 9223372036854775807) (ha : ms.length ≤ 9223372036854775807) : Ev (fun k => dropperref06_IsPlay.f k n ts l ms) (IsS (AfterS n ts l ms)) := by
 unfold dropperref06_IsPlay.f IsS
 refine ev_bind1 (rAfter_ev n ts l ms hf hl ha) ?_
 by_cases h : (AfterS n ts l ms).2 = 5
 ·
  rw [if_pos h, if_pos h]; exact Ev.now _
 ·
  rw [if_neg h, if_neg h]; exact Ev.now _
/-! ### Make -/
theorem Make_val (n : Int) (ts : List S64) (l : List Int) (a : Int) : key_Make.f n ts l a = some (AfterS n ts l [a]) := by
 unfold key_Make.f AfterS
 rw [open_val, Option.bind_some]
 by_cases h0 : asks n ts [l] = 0
 ·
  obtain ⟨hb, hls⟩ := asks_zero h0
  obtain ⟨⟨b1, b2⟩, b3, b4⟩ := (okB_iff n ts).1 hb
  have hst := St.of (hls l (by simp))
  have hw : wrap64 ((ts.length : Int) - 1) = (ts.length : Int) - 1 := wrap_id (by omega) (by omega)
  have hwi : key_within.f 0 a (wrap64 ((ts.length : Int) - 1)) = some (decide (0 ≤ a) && decide (a ≤ (ts.length : Int) - 1)) := by
   rw [hw]; unfold key_within.f
   by_cases h : 0 ≤ a
   ·
    rw [if_pos h, decide_eq_true h, Bool.true_and]
   ·
    rw [if_neg h, decide_eq_false h, Bool.false_and]
  have hok : okL (([a] : List Int).length : Int) 0 (wrap64 ((ts.length : Int) - 1)) [a] = (decide (0 ≤ a) && decide (a ≤ (ts.length : Int) - 1)) := by
   rw [hw]; simp [okL, key_isList.bad]
  rw [if_pos h0, if_pos h0, hwi, Option.bind_some, if_neg (show ¬ (([a] : List Int).length : Int) > 1000 by simp), hok]
  cases hc : (decide (0 ≤ a) && decide (a ≤ (ts.length : Int) - 1)) with
  | false => rfl
  | true =>
   have hc' : 0 ≤ a ∧ a ≤ (ts.length : Int) - 1 := by simpa using hc
   have ht := okT_at b4 hc'.1 (show a < (ts.length : Int) by omega)
   rw [if_pos rfl, if_pos rfl]
   rw [show key_keysOf.f l = some (tup6 l) from rfl, Option.bind_some, if_pos hc'.1, if_pos (by omega)]
   have hm := made_st b2 hst ht
   simp only [tup6]
   rw [hm]
   unfold playsS
   rw [plays]
   cases hq : mv l (rd_T64 ts a).f0 (rd_T64 ts a).f1 with
   | none => rfl
   | some r =>
    simp only [Option.bind_some, if_true, plays]
    rw [list_st b2 (hst.mv ht hq)]
    rfl
 ·
  rw [if_neg h0, if_neg h0]
theorem rMake_ev (n : Int) (ts : List S64) (l : List Int) (a : Int) (hf : Fits ts) (hl : l.length ≤ 9223372036854775807) : Ev (fun k => dropperref06_Make.f k n ts l a) (AfterS n ts l [a]) := by
 unfold dropperref06_Make.f
 exact ev_bind1 (rAfter_ev n ts l [a] hf hl (by simp)) (Ev.now _)
/-! ### Can -/
def cans (l : List Int) : Nat → List S64 → List Int
 | _, [] => []
 | i, t :: ts => if (mv l t.f0 t.f1).isSome = true then (i : Int) :: cans l (i + 1) ts else cans l (i + 1) ts
def CanS (n : Int) (ts : List S64) (l : List Int) : List Int × Int := if asks n ts [l] = 0 then (cans l 0 ts, 0) else ([], asks n ts [l])
theorem kcan_ev {n : Int} {ts : List S64} (hn : n ≤ 6) (h8 : ts.length ≤ 8) (hts : ∀ t ∈ ts, okT n t = true) {l : List Int} (h : St n l) :
  Ev (fun k => key_can.f k n ts (rd l 0) (rd l 1) (rd l 2) (rd l 3) (rd l 4) (rd l 5)) (cans l 0 ts) := by
 have H : ∀ (d i : Nat) (acc : List Int), i + d = ts.length → acc.length ≤ i → Ev (fun k => key_can.l0 k acc ts (ts.length : Int) (i : Int) (rd l 0) (rd l 1) (rd l 2) (rd l 3) (rd l 4) (rd l 5)) (acc ++ cans l i (ts.drop i)) := by
  intro d
  induction d with
  | zero =>
   intro i acc hi ha
   rw [List.drop_eq_nil_of_le (by omega : ts.length ≤ i), cans, List.append_nil]
   refine Ev.step (fun k => by rw [key_can.l0]) (ev_neg (by omega) ?_); exact Ev.now _
  | succ d ih =>
   intro i acc hi ha
   have hlt : i < ts.length := by omega
   rw [List.drop_eq_getElem_cons hlt, cans]
   refine Ev.step (fun k => by rw [key_can.l0]) (ev_pos (by omega) (ev_pos (by omega) (ev_pos (by omega) ?_)))
   rw [rd_S ts i hlt]
   refine ev_val (made_st hn h (hts _ (List.getElem_mem hlt))) ?_
   rw [wrap_succ (l := ts.length) i hlt (by omega)]
   cases mv l ts[i].f0 ts[i].f1 with
   | none => refine ev_neg (by decide) ?_; rw [if_neg (by decide)]; exact ih (i + 1) acc (by omega) (by omega)
   | some r =>
    refine ev_pos rfl (ev_pos (by omega) ?_)
    rw [if_pos (show (some r).isSome = true from rfl)]
    have := ih (i + 1) (acc ++ [(i : Int)]) (by omega) (by simp; omega)
    simpa using this
 unfold key_can.f
 have := H ts.length 0 [] (by omega) (by simp)
 simpa using this
theorem Can_ev (n : Int) (ts : List S64) (l : List Int) : Ev (fun k => key_Can.f k n ts l) (CanS n ts l) := by
 unfold key_Can.f CanS
 refine ev_val (open_val n ts [l]) ?_
 by_cases h0 : asks n ts [l] = 0
 ·
  obtain ⟨hb, hls⟩ := asks_zero h0
  obtain ⟨⟨b1, b2⟩, b3, b4⟩ := (okB_iff n ts).1 hb
  rw [if_pos h0]
  exact ev_pos h0 (ev_val rfl (ev_bind1 (kcan_ev b2 b3 b4 (St.of (hls l (by simp)))) (Ev.now _)))
 ·
  rw [if_neg h0]; exact ev_neg h0 (Ev.now _)
theorem rCan_ev (n : Int) (ts : List S64) (l : List Int) (hf : Fits ts) (hl : l.length ≤ 9223372036854775807) : Ev (fun k => dropperref06_Can.f k n ts l) (CanS n ts l) := by
 unfold dropperref06_Can.f CanS
 refine ev_bind1 (asked_ev n ts [l] hf (by simp) (by simpa using hl)) ?_
 by_cases h0 : asks n ts [l] = 0
 ·
  obtain ⟨hb, hls⟩ := asks_zero h0
  obtain ⟨⟨b1, b2⟩, b3, b4⟩ := (okB_iff n ts).1 hb
  have h := St.of (hls l (by simp))
  rw [if_pos h0]
  refine ev_pos h0 ?_
  have H : ∀ (d i : Nat) (acc : List Int), i + d = ts.length → acc.length ≤ i → Ev (fun k => dropperref06_Can.l0 k l acc (i : Int) n ts) (acc ++ cans l i (ts.drop i), 0) := by
   intro d
   induction d with
   | zero =>
    intro i acc hi ha
    rw [List.drop_eq_nil_of_le (by omega : ts.length ≤ i), cans, List.append_nil]
    refine Ev.step (fun k => by rw [dropperref06_Can.l0]) (ev_neg (by omega) ?_); exact Ev.now _
   | succ d ih =>
    intro i acc hi ha
    have hlt : i < ts.length := by omega
    rw [List.drop_eq_getElem_cons hlt, cans]
    refine Ev.step (fun k => by rw [dropperref06_Can.l0]) (ev_pos (by omega) (ev_pos (by omega) ?_))
    rw [rd_S ts i hlt]
    refine ev_bind1 (after_st b2 h (b4 _ (List.getElem_mem hlt))) ?_
    rw [wrap_succ (l := ts.length) i hlt (by omega)]
    cases mv l ts[i].f0 ts[i].f1 with
    | none => refine ev_neg (by decide) ?_; rw [if_neg (by decide)]; exact ih (i + 1) acc (by omega) (by omega)
    | some r =>
     refine ev_pos rfl (ev_pos (by omega) ?_)
     rw [if_pos (show (some r).isSome = true from rfl)]
     have := ih (i + 1) (acc ++ [(i : Int)]) (by omega) (by simp; omega)
     simpa using this
  have := H ts.length 0 [] (by omega) (by simp)
  simpa using this
 ·
  rw [if_neg h0]; exact ev_neg h0 (Ev.now _)
theorem cans_len (l : List Int) : ∀ (ts : List S64) (i : Nat), (cans l i ts).length ≤ ts.length
 | [], i => Nat.le_refl _
 | t :: ts, i => by
  rw [cans]
  have := cans_len l ts (i + 1)
  split <;> simp <;> omega
theorem CanS_len (n : Int) (ts : List S64) (l : List Int) : (CanS n ts l).1.length ≤ 9223372036854775807 := by
 unfold CanS
 split
 ·
  rename_i h0
  obtain ⟨hb, hls⟩ := asks_zero h0
  obtain ⟨⟨b1, b2⟩, b3, b4⟩ := (okB_iff n ts).1 hb
  have := cans_len l ts 0
  simp only; omega
 ·
  simp
theorem plays_st {n : Int} {ts : List S64} (hts : ∀ t ∈ ts, okT n t = true) : ∀ {ms l r : List Int}, Names ts ms → St n l → plays ts l ms = some r → St n r
 | [], l, r, _, h, e => by rw [plays] at e; cases e; exact h
 | a :: ms, l, r, hN, h, e => by
  rw [plays] at e
  obtain ⟨y, e1, e2⟩ := Option.bind_eq_some_iff.1 e
  have ha := hN a (List.mem_cons_self ..)
  exact plays_st hts (fun x hx => hN x (List.mem_cons_of_mem _ hx)) (h.mv (okT_at hts ha.1 ha.2) e1) e2
theorem AfterS_len (n : Int) (ts : List S64) (l ms : List Int) (hl : l.length ≤ 9223372036854775807) : (AfterS n ts l ms).1.length ≤ 9223372036854775807 := by
 unfold AfterS
 split
 ·
  rename_i h0
  obtain ⟨hb, hls⟩ := asks_zero h0
  obtain ⟨⟨b1, b2⟩, b3, b4⟩ := (okB_iff n ts).1 hb
  split
  ·
   simp
  ·
   split
   ·
    rename_i h2
    unfold playsS
    cases hp : plays ts l ms with
    | none => simp
    | some r =>
     have := (plays_st b4 (names_of b3 h2) (St.of (hls l (by simp))) hp).len
     simp only; omega
   ·
    simp
 ·
  simp
end Go.Proofs.Ytgdfakmlpdeabaa.Keys

/- What comes about on a board, breadth first: each state once, the steps that led there, and that no shorter play leads there. -/
namespace Go.Proofs.Ytgdfakmlpdeabaa.Keys
set_option linter.unusedVariables false
set_option linter.unusedSimpArgs false
open Go.RowKit Go.Proofs.Ytgdfakmlpdeabaa.XKey Go.Proofs.YtgdfakmlpdeabaaW.PrintWords Go.Proofs.YtgdfakmlpdeabaaW.PrintLast Go.Proofs.YtgdfakmlpdeabaaW.PrintMore
def pk (l : List Int) : S70 := ⟨rd l 0, rd l 1, rd l 2, rd l 3, rd l 4, rd l 5⟩
theorem toL_pk (l : List Int) : key_spread.toL (pk l) = six l := rfl
theorem six_inj {a b : List Int} (h : a.length = b.length) (h6 : a.length ≤ 6) (e : six a = six b) : a = b := by
 rw [six_app a h6, six_app b (by omega)] at e
 exact (List.append_inj e h).1
theorem take_pk {n : Int} {l : List Int} (hn : n ≤ 6) (h : St n l) : (key_spread.toL (pk l)).take n.toNat = l := by
 have h1 := h.len
 rw [toL_pk, six_app l (by omega), show n.toNat = l.length by omega]
 simp
theorem wf_pk {n : Int} {l : List Int} (hn : n ≤ 6) (h : St n l) : wf6 [rd l 0, rd l 1, rd l 2, rd l 3, rd l 4, rd l 5] := by
 have hr : ∀ i : Int, -9223372036854775808 ≤ rd l i ∧ rd l i ≤ 9223372036854775807 := by
  intro i
  by_cases hi : i.toNat < l.length
  ·
   have := h.rng l[i.toNat] (List.getElem_mem hi)
   simp only [rd, List.getD_eq_getElem?_getD, List.getElem?_eq_getElem hi, Option.getD_some]
   omega
  ·
   simp [rd, List.getD_eq_getElem?_getD, List.getElem?_eq_none (by omega : l.length ≤ i.toNat)]
 intro x hx
 simp only [List.mem_cons, List.not_mem_nil, or_false] at hx
 rcases hx with rfl | rfl | rfl | rfl | rfl | rfl <;> exact hr _
theorem mem_pk {n : Int} {L : List (List Int)} {r : List Int} (hn : n ≤ 6) (hL : ∀ l ∈ L, St n l) (hr : St n r) : six r ∈ (L.map pk).map key_spread.toL ↔ r ∈ L := by
 simp only [List.map_map, List.mem_map, Function.comp, toL_pk]
 constructor
 ·
  rintro ⟨l, hl, e⟩
  have h1 := (hL l hl).len; have h2 := hr.len
  rw [← six_inj (by omega) (by omega) e]; exact hl
 ·
  exact fun h => ⟨r, h, rfl⟩
def inner (l : List Int) (i : Nat) : List S64 → Nat → List (List Int) → List S107 → Option (List (List Int) × List S107)
 | [], _, L, st => some (L, st)
 | u :: us, t, L, st => match mv l u.f0 u.f1 with
  | none => inner l i us (t + 1) L st
  | some r => if r ∈ L then inner l i us (t + 1) L st else if 300 < L.length + 1 then none else inner l i us (t + 1) (L ++ [r]) (st ++ [⟨i, t⟩])
def bfs (ts : List S64) : Nat → Nat → List (List Int) → List S107 → Option (Option (List (List Int) × List S107))
 | 0, _, _, _ => none
 | m + 1, i, L, st => if h : i < L.length then (match inner L[i] i ts 0 L st with | none => some none | some (L', st') => bfs ts m (i + 1) L' st') else some (some (L, st))
theorem inner_st {n : Int} {l : List Int} {i : Nat} (h : St n l) : ∀ {us : List S64} {t : Nat} {L L' : List (List Int)} {st st' : List S107}, (∀ u ∈ us, okT n u = true) → (∀ x ∈ L, St n x) → inner l i us t L st = some (L', st') → ∀ x ∈ L', St n x
 | [], t, L, L', st, st', _, hL, e => by rw [inner] at e; cases e; exact hL
 | u :: us, t, L, L', st, st', hu, hL, e => by
  have hu' := fun x hx => hu x (List.mem_cons_of_mem _ hx)
  rw [inner] at e
  split at e
  ·
   exact inner_st h hu' hL e
  ·
   rename_i r hr
   split at e
   ·
    exact inner_st h hu' hL e
   ·
    split at e
    ·
     cases e
    ·
     refine inner_st h hu' (fun x hx => ?_) e
     rcases List.mem_append.1 hx with hx | hx
     ·
      exact hL x hx
     ·
      rw [List.mem_singleton.1 hx]; exact h.mv (hu u (List.mem_cons_self ..)) hr
theorem inner_eq {n : Int} {l : List Int} {i : Nat} (hn : n ≤ 6) (h : St n l) : ∀ {us : List S64} {t : Nat} {L : List (List Int)} {st : List S107}, (∀ u ∈ us, okT n u = true) → (∀ x ∈ L, St n x) →
  key_spread.inner (pk l) i us t (L.map pk) st = some ((inner l i us t L st).map fun p => (p.1.map pk, p.2))
 | [], t, L, st, _, hL => rfl
 | u :: us, t, L, st, hu, hL => by
  have hu' := fun x hx => hu x (List.mem_cons_of_mem _ hx)
  have hm := made_st hn h (hu u (List.mem_cons_self ..))
  rw [key_spread.inner, inner]
  simp only [pk] at hm ⊢
  rw [hm]
  have e1 : (t : Int) + 1 = ((t + 1 : Nat) : Int) := by omega
  cases hq : mv l u.f0 u.f1 with
  | none =>
   simp only [Option.bind_some]
   rw [if_pos (by decide), if_neg (by simp), e1]
   exact inner_eq hn h hu' hL
  | some r =>
   have hr := h.mv (hu u (List.mem_cons_self ..)) hq
   simp only [Option.bind_some]
   rw [if_pos (wf_pk hn hr), e1]
   have hmem := mem_pk hn hL hr
   rw [six] at hmem
   by_cases hin : r ∈ L
   ·
    rw [if_neg (fun hh => hh.2 (hmem.2 hin)), if_pos hin]
    exact inner_eq hn h hu' hL
   ·
    rw [if_pos ⟨trivial, fun hh => hin (hmem.1 hh)⟩, if_neg hin, List.length_map]
    by_cases h3 : 300 < L.length + 1
    ·
     rw [if_pos h3, if_pos h3]; rfl
    ·
     rw [if_neg h3, if_neg h3]
     have hL' : ∀ x ∈ L ++ [r], St n x := by
      intro x hx
      rcases List.mem_append.1 hx with hx | hx
      ·
       exact hL x hx
      ·
       rw [List.mem_singleton.1 hx]; exact hr
     have := inner_eq (i := i) hn h (t := t + 1) (st := st ++ [⟨i, t⟩]) hu' hL'
     rw [List.map_append] at this
     exact this
theorem bfs_eq {n : Int} {ts : List S64} (hn : n ≤ 6) (hts : ∀ u ∈ ts, okT n u = true) : ∀ {m i : Nat} {L : List (List Int)} {st : List S107}, (∀ x ∈ L, St n x) →
  key_spread.go ts m i (L.map pk) st = (bfs ts m i L st).map fun o => match o with | none => ([], [], false) | some p => (p.1.map pk, p.2, true)
 | 0, i, L, st, _ => rfl
 | m + 1, i, L, st, hL => by
  rw [key_spread.go, bfs]
  by_cases h : i < L.length
  ·
   rw [dif_pos (by simpa using h), dif_pos h]
   have hl := hL L[i] (List.getElem_mem h)
   have e := inner_eq (i := i) hn hl (t := 0) (st := st) hts hL
   simp only [List.getElem_map]
   rw [show (0 : Int) = ((0 : Nat) : Int) from rfl, e]
   cases hi : inner L[i] i ts 0 L st with
   | none => rfl
   | some p =>
    obtain ⟨L', st'⟩ := p
    simp only [Option.map_some, Option.bind_some]
    exact bfs_eq hn hts (inner_st hl hts hL hi)
  ·
   rw [dif_neg (by simpa using h), dif_neg h]; rfl
end Go.Proofs.Ytgdfakmlpdeabaa.Keys

/- What stands of the states breadth first. -/
namespace Go.Proofs.Ytgdfakmlpdeabaa.Keys
set_option linter.unusedVariables false
set_option linter.unusedSimpArgs false
open Go.RowKit Go.Proofs.Ytgdfakmlpdeabaa.XKey Go.Proofs.YtgdfakmlpdeabaaW.PrintWords Go.Proofs.YtgdfakmlpdeabaaW.PrintLast Go.Proofs.YtgdfakmlpdeabaaW.PrintMore
structure Inv (n : Int) (ts : List S64) (x0 : List Int) (i t : Nat) (L : List (List Int)) (st : List S107) (D : Nat → Nat) : Prop where
 sts : ∀ x ∈ L, St n x
 hd : L[0]? = some x0
 len : st.length = L.length
 nodup : L.Nodup
 st0 : st[0]? = some ⟨-1, -1⟩
 d0 : D 0 = 0
 par : ∀ j, 0 < j → j < L.length → ∃ p q : Nat, p < j ∧ st[j]? = some ⟨(p : Int), (q : Int)⟩ ∧ D j = D p + 1 ∧ ∃ l u y, L[p]? = some l ∧ ts[q]? = some u ∧ L[j]? = some y ∧ mv l u.f0 u.f1 = some y
 mono : ∀ j k, j ≤ k → k < L.length → D j ≤ D k
 tops : i < L.length → ∀ j, j < L.length → D j ≤ D i + 1
 clo : ∀ k q l u y, (k < i ∨ (k = i ∧ q < t)) → L[k]? = some l → ts[q]? = some u → mv l u.f0 u.f1 = some y → ∃ j, j < L.length ∧ L[j]? = some y ∧ D j ≤ D k + 1
theorem Inv.start {n : Int} {ts : List S64} {x0 : List Int} (h : St n x0) : Inv n ts x0 0 0 [x0] [⟨-1, -1⟩] (fun _ => 0) where
 sts := fun x hx => by rw [List.mem_singleton.1 hx]; exact h
 hd := rfl
 len := rfl
 nodup := by simp
 st0 := rfl
 d0 := rfl
 par := fun j h0 h1 => by simp at h1; omega
 mono := fun _ _ _ _ => Nat.le_refl _
 tops := fun _ _ _ => Nat.zero_le _
 clo := fun k q l u y hk => by omega
theorem Inv.next {n : Int} {ts : List S64} {x0 : List Int} {i t : Nat} {L : List (List Int)} {st : List S107} {D : Nat → Nat} (h : Inv n ts x0 i t L st D)
  (hc : ∀ l u y, L[i]? = some l → ts[t]? = some u → mv l u.f0 u.f1 = some y → ∃ j, j < L.length ∧ L[j]? = some y ∧ D j ≤ D i + 1) : Inv n ts x0 i (t + 1) L st D where
 sts := h.sts
 hd := h.hd
 len := h.len
 nodup := h.nodup
 st0 := h.st0
 d0 := h.d0
 par := h.par
 mono := h.mono
 tops := h.tops
 clo := fun k q l u y hk hl hu hm => by
  by_cases e : k = i ∧ q = t
  ·
   obtain ⟨rfl, rfl⟩ := e; exact hc l u y hl hu hm
  ·
   exact h.clo k q l u y (by omega) hl hu hm
theorem Inv.add {n : Int} {ts : List S64} {x0 : List Int} {i t : Nat} {L : List (List Int)} {st : List S107} {D : Nat → Nat} (h : Inv n ts x0 i t L st D) (hi : i < L.length) {l r : List Int} {u : S64}
  (hl : L[i]? = some l) (hu : ts[t]? = some u) (hm : mv l u.f0 u.f1 = some r) (hr : St n r) (hn : ¬ r ∈ L) : Inv n ts x0 i t (L ++ [r]) (st ++ [⟨(i : Int), (t : Int)⟩]) (fun j => if j < L.length then D j else D i + 1) where
 sts := fun x hx => by
  rcases List.mem_append.1 hx with hx | hx
  ·
   exact h.sts x hx
  ·
   rw [List.mem_singleton.1 hx]; exact hr
 hd := by rw [List.getElem?_append_left (by omega)]; exact h.hd
 len := by simp [h.len]
 nodup := by
  rw [List.nodup_append]
  refine ⟨h.nodup, by simp, ?_⟩
  intro a ha b hb
  rw [List.mem_singleton.1 hb]
  intro e; subst e; exact hn ha
 st0 := by rw [List.getElem?_append_left (by rw [h.len]; omega)]; exact h.st0
 d0 := by rw [if_pos (by omega)]; exact h.d0
 par := fun j h0 h1 => by
  have h1' : j < L.length + 1 := by simpa using h1
  by_cases hj : j < L.length
  ·
   obtain ⟨p, q, a, b, c, l', u', y, e1, e2, e3, e4⟩ := h.par j h0 hj
   refine ⟨p, q, a, ?_, ?_, l', u', y, ?_, e2, ?_, e4⟩
   ·
    rw [List.getElem?_append_left (by rw [h.len]; omega)]; exact b
   ·
    rw [if_pos hj, if_pos (by omega)]; exact c
   ·
    rw [List.getElem?_append_left (by omega)]; exact e1
   ·
    rw [List.getElem?_append_left hj]; exact e3
  ·
   have hjl : j = L.length := by omega
   refine ⟨i, t, by omega, ?_, ?_, l, u, r, ?_, hu, ?_, hm⟩
   ·
    rw [hjl, ← h.len]; simp
   ·
    rw [if_neg hj, if_pos hi]
   ·
    rw [List.getElem?_append_left hi]; exact hl
   ·
    rw [hjl]; simp
 mono := fun j k hjk hk => by
  have hk' : k < L.length + 1 := by simpa using hk
  by_cases h1 : k < L.length
  ·
   rw [if_pos h1, if_pos (by omega)]; exact h.mono j k hjk h1
  ·
   rw [if_neg h1]
   by_cases h2 : j < L.length
   ·
    rw [if_pos h2]; exact h.tops hi j h2
   ·
    rw [if_neg h2]; exact Nat.le_refl _
 tops := fun _ j hj => by
  rw [if_pos hi]
  by_cases h2 : j < L.length
  ·
   rw [if_pos h2]; exact h.tops hi j h2
  ·
   rw [if_neg h2]; exact Nat.le_refl _
 clo := fun k q l' u' y hk e1 e2 e3 => by
  have hkl : k < L.length := by omega
  rw [List.getElem?_append_left hkl] at e1
  obtain ⟨j, a, b, c⟩ := h.clo k q l' u' y hk e1 e2 e3
  refine ⟨j, by simp; omega, by rw [List.getElem?_append_left a]; exact b, ?_⟩
  rw [if_pos a, if_pos hkl]; exact c
theorem Inv.inner {n : Int} {ts : List S64} {x0 : List Int} {i : Nat} {l : List Int} (hts : ∀ u ∈ ts, okT n u = true) : ∀ {us : List S64} {t : Nat} {L L' : List (List Int)} {st st' : List S107} {D : Nat → Nat},
  ts.drop t = us → t ≤ ts.length → Inv n ts x0 i t L st D → L[i]? = some l → Keys.inner l i us t L st = some (L', st') → ∃ D', Inv n ts x0 i ts.length L' st' D' ∧ i < L'.length
 | [], t, L, L', st, st', D, hd, ht, h, hl, e => by
  rw [Keys.inner] at e; cases e
  have : ts.length ≤ t := by simpa using List.drop_eq_nil_iff.1 hd
  have e2 : t = ts.length := by omega
  subst e2
  exact ⟨D, h, (List.getElem?_eq_some_iff.1 hl).1⟩
 | u :: us, t, L, L', st, st', D, hd, ht, h, hl, e => by
  have hlt : t < ts.length := by
   by_cases hh : t < ts.length
   ·
    exact hh
   ·
    rw [List.drop_eq_nil_of_le (by omega)] at hd; cases hd
  have hi : i < L.length := (List.getElem?_eq_some_iff.1 hl).1
  rw [List.drop_eq_getElem_cons hlt] at hd
  injection hd with hd1 hd2
  have hu : ts[t]? = some u := by rw [List.getElem?_eq_getElem hlt, hd1]
  have hok := hts u (by rw [← hd1]; exact List.getElem_mem hlt)
  have hL : l ∈ L := List.mem_of_getElem? hl
  rw [Keys.inner] at e
  split at e
  ·
   rename_i hm
   refine Inv.inner hts hd2 hlt (h.next (fun l' u' y e1 e2 e3 => ?_)) hl e
   rw [hl] at e1; rw [hu] at e2; cases e1; cases e2; rw [hm] at e3; cases e3
  ·
   rename_i r hm
   split at e
   ·
    rename_i hin
    refine Inv.inner hts hd2 hlt (h.next (fun l' u' y e1 e2 e3 => ?_)) hl e
    rw [hl] at e1; rw [hu] at e2; cases e1; cases e2; rw [hm] at e3; cases e3
    obtain ⟨j, hj, ej⟩ := List.mem_iff_getElem.1 hin
    exact ⟨j, hj, by rw [List.getElem?_eq_getElem hj, ej], h.tops hi j hj⟩
   ·
    rename_i hin
    split at e
    ·
     cases e
    ·
     have ha := h.add hi hl hu hm ((h.sts l hL).mv hok hm) hin
     refine Inv.inner hts hd2 hlt (ha.next (fun l' u' y e1 e2 e3 => ?_)) (by rw [List.getElem?_append_left hi]; exact hl) e
     rw [List.getElem?_append_left hi, hl] at e1; rw [hu] at e2; cases e1; cases e2; rw [hm] at e3; cases e3
     refine ⟨L.length, by simp, by simp, ?_⟩
     simp [hi]
theorem Inv.bfs {n : Int} {ts : List S64} {x0 : List Int} (hts : ∀ u ∈ ts, okT n u = true) : ∀ {m i : Nat} {L L' : List (List Int)} {st st' : List S107} {D : Nat → Nat},
  Inv n ts x0 i 0 L st D → i ≤ L.length → Keys.bfs ts m i L st = some (some (L', st')) → ∃ D', Inv n ts x0 L'.length 0 L' st' D'
 | 0, i, L, L', st, st', D, h, hi, e => by rw [Keys.bfs] at e; cases e
 | m + 1, i, L, L', st, st', D, h, hi, e => by
  rw [Keys.bfs] at e
  by_cases hlt : i < L.length
  ·
   rw [dif_pos hlt] at e
   split at e
   ·
    cases e
   ·
    rename_i L1 st1 hin
    obtain ⟨D1, h1, hi1⟩ := Inv.inner hts (us := ts) (t := 0) rfl (Nat.zero_le _) h (List.getElem?_eq_getElem hlt) hin
    refine Inv.bfs hts (D := D1) ?_ hi1 e
    exact { sts := h1.sts, hd := h1.hd, len := h1.len, nodup := h1.nodup, st0 := h1.st0, d0 := h1.d0, par := h1.par, mono := h1.mono, tops := fun hh j hj => Nat.le_trans (h1.tops hi1 j hj) (Nat.succ_le_succ (h1.mono i (i + 1) (Nat.le_succ _) hh)), clo := fun k q l u y hk e1 e2 e3 => h1.clo k q l u y (by have := (List.getElem?_eq_some_iff.1 e2).1; omega) e1 e2 e3 }
  ·
   rw [dif_neg hlt] at e
   have e1 : i = L.length := by omega
   subst e1
   cases e
   exact ⟨D, h⟩
theorem inner_len {l : List Int} {i : Nat} : ∀ {us : List S64} {t : Nat} {L L' : List (List Int)} {st st' : List S107}, inner l i us t L st = some (L', st') → L.length ≤ 300 → L'.length ≤ 300 ∧ L.length ≤ L'.length
 | [], t, L, L', st, st', e, hl => by rw [inner] at e; cases e; exact ⟨hl, Nat.le_refl _⟩
 | u :: us, t, L, L', st, st', e, hl => by
  rw [inner] at e
  split at e
  ·
   exact inner_len e hl
  ·
   split at e
   ·
    exact inner_len e hl
   ·
    split at e
    ·
     cases e
    ·
     rename_i h3
     have := inner_len e (by simp; omega)
     simp at this
     exact ⟨this.1, by omega⟩
theorem bfs_some {ts : List S64} : ∀ {m i : Nat} {L : List (List Int)} {st : List S107}, L.length ≤ 300 → i ≤ L.length → 300 < m + i → ∃ o, bfs ts m i L st = some o
 | 0, i, L, st, h1, h2, h3 => by omega
 | m + 1, i, L, st, h1, h2, h3 => by
  rw [bfs]
  by_cases hlt : i < L.length
  ·
   rw [dif_pos hlt]
   cases hin : inner L[i] i ts 0 L st with
   | none => exact ⟨_, rfl⟩
   | some p =>
    obtain ⟨L1, st1⟩ := p
    have := inner_len hin h1
    exact bfs_some this.1 (by omega) (by omega)
  ·
   rw [dif_neg hlt]; exact ⟨_, rfl⟩
end Go.Proofs.Ytgdfakmlpdeabaa.Keys

namespace Go.Proofs.Ytgdfakmlpdeabaa.XKey
open Go.RowKit Go.Proofs.YtgdfakmlpdeabaaW.PrintWords Go.Proofs.YtgdfakmlpdeabaaW.PrintLast Go.Proofs.YtgdfakmlpdeabaaW.PrintMore
attribute [local go_sem] max2_int min2_int max_two min_two max_three min_three max_four min_four   -- for this text's walks alone
set_option linter.unusedVariables false
set_option linter.unusedSimpArgs false
/-! ### key_Holds: function 21 -/
def key_Holds.f (k : Nat) (a0_0 : Int) (l0_1 : List (S64)) (l1 : List Int) : Option (Bool × Int) := (key_weighed.f a0_0 l0_1 l1 ([] : List (List Int))).bind fun t209 => (if t209 = 0 then ((key_holds.f k a0_0 l0_1 l1).bind fun t210 => (some (t210, 0))) else (some (false, t209)))
/-! ### key_Sum: function 22 -/
def key_Sum.f (k : Nat) (a0_0 : Int) (l0_1 : List (S64)) (l1 : List Int) (l2 : List Int) : Option (Int × Int) := (key_weighed.f a0_0 l0_1 l1 (([l2] : List (List Int)))).bind fun t215 => (if t215 = 0 then ((key_sum.f k l1 l2).bind fun t216 => (some (t216, 0))) else (some (0, t215)))
/-! ### dropperref06_Weights: function 14 -/
def dropperref06_Weights.f (k : Nat) (a0_0 : Int) (l0_1 : List (S64)) (l1 : List Int) : Option (Bool) := (dropperref06_list.f k l1 a0_0 (-20000) 20000).bind fun t230 => (some t230)
/-! ### dropperref06_product: function 73 -/
def dropperref06_product.l0 : Nat → List Int → List Int → Int → Int → Option (Int)
 | 0, _, _, _, _ => none
 | k + 1, x0, x1, x5, x6 => if x6 < (x1.length : Int) then (if 0 ≤ x6 then (if x6 < (x0.length : Int) then (dropperref06_product.l0 k x0 x1 (wrap64 (x5 + (wrap64 ((rd x0 x6) * (rd x1 x6))))) (wrap64 (x6 + 1))) else (none)) else (none)) else (some x5)
def dropperref06_product.f (k : Nat) (l0 : List Int) (l1 : List Int) : Option (Int) := dropperref06_product.l0 k l0 l1 0 0
/-! ### dropperref06_holds: function 71 -/
def dropperref06_holds.l0 : Nat → List Int → Int → Int → List (S64) → Option (Bool)
 | 0, _, _, _, _ => none
 | k + 1, x1, x5, x234000, x234001 => if x5 < (x234001.length : Int) then (if 0 ≤ x5 then ((dropperref06_product.f k x1 ((rd_T64 x234001 x5).f0)).bind fun t235 => ((dropperref06_product.f k x1 ((rd_T64 x234001 x5).f1)).bind fun t237 => (if t235 = t237 then (dropperref06_holds.l0 k x1 (wrap64 (x5 + 1)) x234000 x234001) else (some false)))) else (none)) else (some true)
def dropperref06_holds.f (k : Nat) (a0_0 : Int) (l0_1 : List (S64)) (l1 : List Int) : Option (Bool) := dropperref06_holds.l0 k l1 0 a0_0 l0_1
/-! ### dropperref06_Holds: function 30 -/
def dropperref06_Holds.f (k : Nat) (a0_0 : Int) (l0_1 : List (S64)) (l1 : List Int) : Option (Bool × Int) := (dropperref06_Valid.f k a0_0 l0_1).bind fun t239 => (if t239 = true then ((dropperref06_Weights.f k a0_0 l0_1 l1).bind fun t240 => (if t240 = true then ((dropperref06_holds.f k a0_0 l0_1 l1).bind fun t241 => (some (t241, 0))) else (some (false, 2)))) else (some (false, 60)))
/-! ### dropperref06_Sum: function 31 -/
def dropperref06_Sum.f (k : Nat) (a0_0 : Int) (l0_1 : List (S64)) (l1 : List Int) (l2 : List Int) : Option (Int × Int) := (dropperref06_asked.f k a0_0 l0_1 (([l2] : List (List Int)))).bind fun t252 => (if t252 = 0 then ((dropperref06_Weights.f k a0_0 l0_1 l1).bind fun t253 => (if t253 = true then ((dropperref06_product.f k l1 l2).bind fun t254 => (some (t254, 0))) else (some (0, 2)))) else (some (0, t252)))
/-! ### dropperref06_Proves: function 32 -/
def dropperref06_Proves.f (k : Nat) (a0_0 : Int) (l0_1 : List (S64)) (l1 : List Int) (l2 : List Int) (l3 : List Int) : Option (Bool × Int) := (dropperref06_asked.f k a0_0 l0_1 (([l2, l3] : List (List Int)))).bind fun t259 => (if t259 = 0 then ((dropperref06_Weights.f k a0_0 l0_1 l1).bind fun t260 => (if t260 = true then ((dropperref06_list.f k l1 a0_0 0 20000).bind fun t261 => (if t261 = true then ((dropperref06_holds.f k a0_0 l0_1 l1).bind fun t262 => (if t262 = true then ((dropperref06_product.f k l1 l3).bind fun t263 => ((dropperref06_product.f k l1 l2).bind fun t264 => (some (decide (t263 > t264), 0)))) else (some (false, 0)))) else (some (false, 0)))) else (some (false, 2)))) else (some (false, t259)))
/-! ### key_Turned: function 37 -/
def key_Turned.l0 : Nat → List (S64) → Int → Int → Int → List (S64) → Option (Int × (List (S64)) × Int)
 | 0, _, _, _, _, _ => none
 | k + 1, x18, x19, x20, x381000, x381001 => if x20 < x19 then (if 0 ≤ x20 then (if x20 < (x18.length : Int) then ((slices_Clone_int_int.f ((rd_T64 x18 x20).f1)).bind fun t383 => ((slices_Clone_int_int.f ((rd_T64 x18 x20).f0)).bind fun t386 => (if x381001.length < 2932031007402 then (key_Turned.l0 k x18 x19 (wrap64 (x20 + 1)) x381000 (x381001 ++ [(⟨t383, t386⟩ : S64)])) else (none)))) else (none)) else (none)) else (some (x381000, x381001, 0))
def key_Turned.f (k : Nat) (a0_0 : Int) (l0_1 : List (S64)) : Option (Int × (List (S64)) × Int) := (key_open.f a0_0 l0_1 ([] : List (List Int))).bind fun t379 => (if t379 = 0 then (key_Turned.l0 k l0_1 (l0_1.length : Int) 0 a0_0 ([] : List (S64))) else (some (0, ([] : List (S64)), t379)))
def key_Turned.T8 : Bool × List (List Nat × List Nat) := (true, [([], []), ([0], [0]), ([], []), ([2], [2]), ([3], [3]), ([], []), ([5], [5]), ([6, 4], [6]), ([4, 7], [4, 7]), ([8], [8]), ([1, 9, 7], [1, 9]), ([0, 1, 2, 3, 4, 5, 6, 7, 8, 9, 10], []), ([11, 10, 10, 0, 1, 2, 3, 4, 5, 6, 7, 8, 9, 10], [10, 11])])
def key_Turned.B8 : List Nat := [0, 1, 0, 4, 12, 0, 32, 124, 252, 508, 1023, 2047, 4095]
theorem key_Turned.tab8 : rtab .any (opsOf Try.f37 8) = key_Turned.T8 := by kernel_rfl
theorem key_Turned.bits8 : waitsOk key_Turned.T8.2 key_Turned.B8 = true := by kernel_rfl
/-! ### dropperref06_Turned: function 38 -/
def dropperref06_Turned.l0 : Nat → Int → Int → List (S64) → Int → List (S64) → Option (Int × (List (S64)) × Int)
 | 0, _, _, _, _, _ => none
 | k + 1, x5, x393000, x393001, x396000, x396001 => if x5 < (x393001.length : Int) then (if 0 ≤ x5 then ((some (([] : List Int) : List Int)).bind fun y398 => (if y398.length + ((rd_T64 x393001 x5).f1).length < 17592186044416 then ((some (([] : List Int) : List Int)).bind fun y404 => (if y404.length + ((rd_T64 x393001 x5).f0).length < 17592186044416 then (if x396001.length < 2932031007402 then (dropperref06_Turned.l0 k (wrap64 (x5 + 1)) x393000 x393001 x396000 (x396001 ++ [(⟨(y398 ++ ((rd_T64 x393001 x5).f1)), (y404 ++ ((rd_T64 x393001 x5).f0))⟩ : S64)])) else (none)) else (none))) else (none))) else (none)) else (some (x396000, x396001, 0))
def dropperref06_Turned.f (k : Nat) (a0_0 : Int) (l0_1 : List (S64)) : Option (Int × (List (S64)) × Int) := (dropperref06_Valid.f k a0_0 l0_1).bind fun t394 => (if t394 = true then (dropperref06_Turned.l0 k 0 a0_0 l0_1 a0_0 ([] : List (S64))) else (some (0, ([] : List (S64)), 60)))
def dropperref06_Turned.T8 : Bool × List (List Nat × List Nat) := (true, [([], []), ([0], [0]), ([], []), ([], []), ([3], [3]), ([2, 4], [2, 4]), ([], []), ([], []), ([7], [7]), ([6, 8, 5], [6, 8]), ([5, 9], [5, 9]), ([10], [10]), ([1, 11, 9], [1, 11]), ([0, 1, 2, 3, 4, 5, 6, 7, 8, 9, 10, 11, 12], []), ([13, 12, 12, 0, 1, 2, 3, 4, 5, 6, 7, 8, 9, 10, 11, 12], [12, 13])])
def dropperref06_Turned.B8 : List Nat := [0, 1, 0, 0, 8, 28, 0, 0, 128, 508, 1020, 2044, 4095, 8191, 16383]
theorem dropperref06_Turned.tab8 : rtab .any (opsOf Try.f38 8) = dropperref06_Turned.T8 := by kernel_rfl
theorem dropperref06_Turned.bits8 : waitsOk dropperref06_Turned.T8.2 dropperref06_Turned.B8 = true := by kernel_rfl
/-! ### dropperlaw06_sameBoards: function 39 -/
mutual
def dropperlaw06_sameBoards.j0 : Nat → Bool → Int → List (S64) → Int → List (S64) → Option (Bool)
 | 0, _, _, _, _, _ => none
 | k + 1, x19, x414000, x414001, x415000, x415001 => if x19 = true then (some false) else (dropperlaw06_sameBoards.l0 k 0 x414000 x414001 x415000 x415001)
def dropperlaw06_sameBoards.l0 : Nat → Int → Int → List (S64) → Int → List (S64) → Option (Bool)
 | 0, _, _, _, _, _ => none
 | k + 1, x5, x414000, x414001, x415000, x415001 => if x5 < (x414001.length : Int) then (if 0 ≤ x5 then (if x5 < (x415001.length : Int) then ((dropperlaw06_SameInts.f k ((rd_T64 x414001 x5).f0) ((rd_T64 x415001 x5).f0)).bind fun t417 => (if t417 = true then ((dropperlaw06_SameInts.f k ((rd_T64 x414001 x5).f1) ((rd_T64 x415001 x5).f1)).bind fun t420 => (if t420 = true then (dropperlaw06_sameBoards.l0 k (wrap64 (x5 + 1)) x414000 x414001 x415000 x415001) else (some false))) else (some false))) else (none)) else (none)) else (some true)
end
def dropperlaw06_sameBoards.f (k : Nat) (a0_0 : Int) (l0_1 : List (S64)) (a1_0 : Int) (l1_1 : List (S64)) : Option (Bool) := if a0_0 = a1_0 then (dropperlaw06_sameBoards.j0 k ((l0_1.length : Int) != (l1_1.length : Int)) a0_0 l0_1 a1_0 l1_1) else (dropperlaw06_sameBoards.j0 k true a0_0 l0_1 a1_0 l1_1)
end Go.Proofs.Ytgdfakmlpdeabaa.XKey
/- Weights: program and reference reckon alike. -/
namespace Go.Proofs.Ytgdfakmlpdeabaa.Keys
set_option linter.unusedVariables false
set_option linter.unusedSimpArgs false
open Go.RowKit Go.Proofs.Ytgdfakmlpdeabaa.XKey Go.Proofs.YtgdfakmlpdeabaaW.PrintWords Go.Proofs.YtgdfakmlpdeabaaW.PrintLast Go.Proofs.YtgdfakmlpdeabaaW.PrintMore
def dot : Int → List Int → List Int → Int
 | s, x :: xs, y :: ys => dot (wrap64 (s + wrap64 (x * y))) xs ys
 | s, _, _ => s
theorem sum_ev (a b : List Int) (h : a.length = b.length) (hl : a.length ≤ 9223372036854775807) : Ev (fun k => key_sum.f k a b) (dot 0 a b) := by
 unfold key_sum.f
 have H : ∀ (d i : Nat) (s : Int), i + d = a.length → Ev (fun k => key_sum.l0 k b s a (a.length : Int) (i : Int)) (dot s (a.drop i) (b.drop i)) := by
  intro d
  induction d with
  | zero =>
   intro i s hi
   rw [List.drop_eq_nil_of_le (by omega : a.length ≤ i)]
   refine Ev.step (fun k => by rw [key_sum.l0]) (ev_neg (by omega) ?_)
   rw [dot]
   ·
    exact Ev.now _
   ·
    intro _ _ _ _ h; cases h
  | succ d ih =>
   intro i s hi
   refine Ev.step (fun k => by rw [key_sum.l0]) (ev_pos (by omega) (ev_pos (by omega) (ev_pos (by omega) (ev_pos (by omega) ?_))))
   rw [List.drop_eq_getElem_cons (by omega : i < a.length), List.drop_eq_getElem_cons (by omega : i < b.length), dot, rd_at a i (by omega), rd_at b i (by omega), wrap_succ (l := a.length) i (by omega) hl]
   exact ih (i + 1) _ (by omega)
 exact H a.length 0 0 (by omega)
theorem product_ev (a b : List Int) (h : a.length = b.length) (hl : a.length ≤ 9223372036854775807) : Ev (fun k => dropperref06_product.f k a b) (dot 0 a b) := by
 unfold dropperref06_product.f
 have H : ∀ (d i : Nat) (s : Int), i + d = a.length → Ev (fun k => dropperref06_product.l0 k a b s (i : Int)) (dot s (a.drop i) (b.drop i)) := by
  intro d
  induction d with
  | zero =>
   intro i s hi
   rw [List.drop_eq_nil_of_le (by omega : a.length ≤ i)]
   refine Ev.step (fun k => by rw [dropperref06_product.l0]) (ev_neg (by omega) ?_)
   rw [dot]
   ·
    exact Ev.now _
   ·
    intro _ _ _ _ h; cases h
  | succ d ih =>
   intro i s hi
   refine Ev.step (fun k => by rw [dropperref06_product.l0]) (ev_pos (by omega) (ev_pos (by omega) (ev_pos (by omega) ?_)))
   rw [List.drop_eq_getElem_cons (by omega : i < a.length), List.drop_eq_getElem_cons (by omega : i < b.length), dot, rd_at a i (by omega), rd_at b i (by omega), wrap_succ (l := a.length) i (by omega) hl]
   exact ih (i + 1) _ (by omega)
 exact H a.length 0 0 (by omega)
def holdsS (w : List Int) (ts : List S64) : Bool := ts.all fun t => decide (dot 0 w t.f0 = dot 0 w t.f1)
def fitW (n : Int) (w : List Int) : Bool := okL n (-20000) 20000 w
theorem holds_ev {n : Int} {w : List Int} (hn : n ≤ 6) (hw : (w.length : Int) = n) (m : Int) : ∀ {ts : List S64}, (∀ t ∈ ts, okT n t = true) → Ev (fun k => key_holds.f k m ts w) (holdsS w ts)
 | [], _ => Ev.congr (f := fun _ => some true) (fun k => by rw [key_holds.f, key_holds.go]) (Ev.now _)
 | t :: ts, h => by
  obtain ⟨⟨a, b⟩, c, d⟩ := (okT_iff n t).1 (h t (List.mem_cons_self ..))
  have ih := holds_ev hn hw m (ts := ts) (fun x hx => h x (List.mem_cons_of_mem _ hx))
  refine Ev.congr (fun k => by rw [key_holds.f, key_holds.go]) ?_
  refine ev_bind1 (sum_ev w t.f0 (by omega) (by omega)) (ev_bind1 (sum_ev w t.f1 (by omega) (by omega)) ?_)
  exact ev_bind1 (g := fun k => key_holds.go k w ts) ih (Ev.now _)
theorem rholds_ev {n : Int} {w : List Int} (hn : n ≤ 6) (hw : (w.length : Int) = n) (m : Int) {ts : List S64} (h8 : ts.length ≤ 8) (hts : ∀ t ∈ ts, okT n t = true) : Ev (fun k => dropperref06_holds.f k m ts w) (holdsS w ts) := by
 unfold dropperref06_holds.f holdsS
 refine ev_loop (l := ts) (by omega) (F := fun k i => dropperref06_holds.l0 k w i m ts) (fun r => r.all fun t => decide (dot 0 w t.f0 = dot 0 w t.f1)) ?_ ?_
 ·
  refine Ev.step (fun k => by rw [dropperref06_holds.l0]) (ev_neg (by omega) ?_); exact Ev.now _
 ·
  intro i h hwr ih
  obtain ⟨⟨a, b⟩, c, d⟩ := (okT_iff n ts[i]).1 (hts _ (List.getElem_mem h))
  refine Ev.step (fun k => by rw [dropperref06_holds.l0]) (ev_pos (by omega) (ev_pos (by omega) ?_))
  rw [rd_S ts i h, List.all_cons]
  refine ev_bind1 (product_ev w _ (by omega) (by omega)) (ev_bind1 (product_ev w _ (by omega) (by omega)) ?_)
  by_cases hc : dot 0 w ts[i].f0 = dot 0 w ts[i].f1
  ·
   rw [decide_eq_true hc, Bool.true_and]; refine ev_pos hc ?_; rw [hwr]; exact ih
  ·
   rw [decide_eq_false hc, Bool.false_and]; exact ev_neg hc (Ev.now _)
def weighS (n : Int) (ts : List S64) (w : List Int) (ls : List (List Int)) : Int := if asks n ts ls = 0 then (if fitW n w = true then 0 else 2) else asks n ts ls
theorem weighed_val (n : Int) (ts : List S64) (w : List Int) (ls : List (List Int)) : key_weighed.f n ts w ls = some (weighS n ts w ls) := by
 unfold key_weighed.f weighS
 rw [open_val, Option.bind_some]
 by_cases h : asks n ts ls = 0
 ·
  rw [if_pos h, if_pos h, isList_val, Option.bind_some, ← fitW]
  cases fitW n w with
  | true => rw [if_pos rfl, if_pos rfl, h]
  | false => rfl
 ·
  rw [if_neg h, if_neg h]
theorem Weights_ev (n : Int) (ts : List S64) (w : List Int) (hl : w.length ≤ 9223372036854775807) : Ev (fun k => dropperref06_Weights.f k n ts w) (fitW n w) := by
 unfold dropperref06_Weights.f
 exact ev_bind1 (rlist_ev w n (-20000) 20000 hl) (Ev.now _)
theorem weigh_zero {n : Int} {ts : List S64} {w : List Int} {ls : List (List Int)} (h : weighS n ts w ls = 0) : asks n ts ls = 0 ∧ fitW n w = true := by
 unfold weighS at h
 split at h
 ·
  rename_i h1
  split at h
  ·
   rename_i h2; exact ⟨h1, h2⟩
  ·
   omega
 ·
  rename_i h1; exact absurd h h1
def HoldsS (n : Int) (ts : List S64) (w : List Int) : Bool × Int := if weighS n ts w [] = 0 then (holdsS w ts, 0) else (false, weighS n ts w [])
theorem fitW_len {n : Int} {w : List Int} (h : fitW n w = true) : (w.length : Int) = n := ((okL_iff _ _ _ _).1 h).1
theorem Holds_ev (n : Int) (ts : List S64) (w : List Int) : Ev (fun k => key_Holds.f k n ts w) (HoldsS n ts w) := by
 unfold key_Holds.f HoldsS
 refine ev_val (weighed_val n ts w []) ?_
 by_cases h : weighS n ts w [] = 0
 ·
  obtain ⟨h1, h2⟩ := weigh_zero h
  obtain ⟨⟨b1, b2⟩, b3, b4⟩ := (okB_iff n ts).1 (asks_zero h1).1
  rw [if_pos h]
  exact ev_pos h (ev_bind1 (holds_ev b2 (fitW_len h2) n b4) (Ev.now _))
 ·
  rw [if_neg h]; exact ev_neg h (Ev.now _)
theorem rHolds_ev (n : Int) (ts : List S64) (w : List Int) (hf : Fits ts) (hl : w.length ≤ 9223372036854775807) : Ev (fun k => dropperref06_Holds.f k n ts w) (HoldsS n ts w) := by
 unfold dropperref06_Holds.f HoldsS weighS asks
 refine ev_bind1 (rValid_ev n ts hf) ?_
 cases hb : okB n ts with
 | false => exact ev_neg (by decide) (Ev.now _)
 | true =>
  refine ev_pos rfl (ev_bind1 (Weights_ev n ts w hl) ?_)
  cases hw : fitW n w with
  | false => exact ev_neg (by decide) (Ev.now _)
  | true =>
   obtain ⟨⟨b1, b2⟩, b3, b4⟩ := (okB_iff n ts).1 hb
   exact ev_pos rfl (ev_bind1 (rholds_ev b2 (fitW_len hw) n b3 b4) (Ev.now _))
def SumS (n : Int) (ts : List S64) (w l : List Int) : Int × Int := if weighS n ts w [l] = 0 then (dot 0 w l, 0) else (0, weighS n ts w [l])
theorem Sum_ev (n : Int) (ts : List S64) (w l : List Int) : Ev (fun k => key_Sum.f k n ts w l) (SumS n ts w l) := by
 unfold key_Sum.f SumS
 refine ev_val (weighed_val n ts w [l]) ?_
 by_cases h : weighS n ts w [l] = 0
 ·
  obtain ⟨h1, h2⟩ := weigh_zero h
  obtain ⟨⟨b1, b2⟩, b3, b4⟩ := (okB_iff n ts).1 (asks_zero h1).1
  have h3 := fitW_len h2; have h4 := (St.of ((asks_zero h1).2 l (by simp))).len
  rw [if_pos h]
  exact ev_pos h (ev_bind1 (sum_ev w l (by omega) (by omega)) (Ev.now _))
 ·
  rw [if_neg h]; exact ev_neg h (Ev.now _)
theorem rSum_ev (n : Int) (ts : List S64) (w l : List Int) (hf : Fits ts) (hw : w.length ≤ 9223372036854775807) (hl : l.length ≤ 9223372036854775807) : Ev (fun k => dropperref06_Sum.f k n ts w l) (SumS n ts w l) := by
 unfold dropperref06_Sum.f SumS weighS
 refine ev_bind1 (asked_ev n ts [l] hf (by simp) (by simpa using hl)) ?_
 by_cases h1 : asks n ts [l] = 0
 ·
  rw [if_pos h1]
  refine ev_pos h1 (ev_bind1 (Weights_ev n ts w hw) ?_)
  cases h2 : fitW n w with
  | false => exact ev_neg (by decide) (Ev.now _)
  | true =>
   obtain ⟨⟨b1, b2⟩, b3, b4⟩ := (okB_iff n ts).1 (asks_zero h1).1
   have h3 := fitW_len h2; have h4 := (St.of ((asks_zero h1).2 l (by simp))).len
   exact ev_pos rfl (ev_bind1 (product_ev w l (by omega) (by omega)) (Ev.now _))
 ·
  rw [if_neg h1, if_neg h1]; exact ev_neg h1 (Ev.now _)
/-! ### Proves -/
theorem min_foldl : ∀ (l : List Int) (m : Int), 0 ≤ l.foldl min m ↔ 0 ≤ m ∧ ∀ x ∈ l, 0 ≤ x
 | [], m => by simp
 | x :: l, m => by
  rw [List.foldl_cons, min_foldl l (min m x)]
  simp only [List.mem_cons, forall_eq_or_imp]
  constructor
  ·
   rintro ⟨h1, h2⟩; exact ⟨by omega, by omega, h2⟩
  ·
   rintro ⟨h1, h2, h3⟩; exact ⟨by omega, h3⟩
theorem min_iff {l : List Int} (h : l ≠ []) : 0 ≤ Lib.minOf l ↔ ∀ x ∈ l, 0 ≤ x := by
 unfold Lib.minOf
 rw [min_foldl]
 constructor
 ·
  exact fun h => h.2
 ·
  intro h2
  refine ⟨?_, h2⟩
  cases l with
  | nil => exact absurd rfl h
  | cons x l => exact h2 x (List.mem_cons_self ..)
theorem pos_iff {n : Int} {w : List Int} (h1 : 1 ≤ n) (h : fitW n w = true) : okL n 0 20000 w = decide (0 ≤ Lib.minOf w) := by
 obtain ⟨a, b⟩ := (okL_iff _ _ _ _).1 h
 have hne : w ≠ [] := by intro e; subst e; simp at a; omega
 rw [Bool.eq_iff_iff, okL_iff, decide_eq_true_eq, min_iff hne]
 constructor
 ·
  exact fun h x hx => (h.2 x hx).1
 ·
  exact fun h2 => ⟨a, fun x hx => ⟨h2 x hx, (b x hx).2⟩⟩
def ProvesS (n : Int) (ts : List S64) (w l m : List Int) : Bool × Int := if weighS n ts w [l, m] = 0 then (holdsS w ts && (decide (0 ≤ Lib.minOf w) && decide (dot 0 w m > dot 0 w l)), 0) else (false, weighS n ts w [l, m])
theorem Proves_ev (n : Int) (ts : List S64) (w l m : List Int) : Ev (fun k => key_Proves.f k n ts w l m) (ProvesS n ts w l m) := by
 unfold key_Proves.f ProvesS
 refine ev_val (weighed_val n ts w [l, m]) ?_
 by_cases h : weighS n ts w [l, m] = 0
 ·
  obtain ⟨h1, h2⟩ := weigh_zero h
  obtain ⟨⟨b1, b2⟩, b3, b4⟩ := (okB_iff n ts).1 (asks_zero h1).1
  have h3 := fitW_len h2; have h4 := (St.of ((asks_zero h1).2 l (by simp))).len; have h5 := (St.of ((asks_zero h1).2 m (by simp))).len
  have hne : w ≠ [] := by intro e; subst e; simp at h3; omega
  rw [if_pos h]
  refine ev_pos h (ev_bind1 (holds_ev b2 h3 n b4) ?_)
  cases holdsS w ts with
  | false => exact ev_neg (by decide) (Ev.now _)
  | true =>
   refine ev_pos rfl (ev_val (show slices_Min_int_int.f w = some (Lib.minOf w) from if_neg hne) ?_)
   by_cases h6 : 0 ≤ Lib.minOf w
   ·
    rw [decide_eq_true h6]
    exact ev_pos h6 (ev_bind1 (sum_ev w m (by omega) (by omega)) (ev_bind1 (sum_ev w l (by omega) (by omega)) (Ev.now _)))
   ·
    rw [decide_eq_false h6]; exact ev_neg h6 (Ev.now _)
 ·
  rw [if_neg h]; exact ev_neg h (Ev.now _)
theorem rProves_ev (n : Int) (ts : List S64) (w l m : List Int) (hf : Fits ts) (hw : w.length ≤ 9223372036854775807) (hl : l.length ≤ 9223372036854775807) (hm : m.length ≤ 9223372036854775807) : Ev (fun k => dropperref06_Proves.f k n ts w l m) (ProvesS n ts w l m) := by
 unfold dropperref06_Proves.f ProvesS weighS
 refine ev_bind1 (asked_ev n ts [l, m] hf (by simp) (by simp; exact ⟨hl, hm⟩)) ?_
 by_cases h1 : asks n ts [l, m] = 0
 ·
  rw [if_pos h1]
  refine ev_pos h1 (ev_bind1 (Weights_ev n ts w hw) ?_)
  cases h2 : fitW n w with
  | false => exact ev_neg (by decide) (Ev.now _)
  | true =>
   obtain ⟨⟨b1, b2⟩, b3, b4⟩ := (okB_iff n ts).1 (asks_zero h1).1
   have h3 := fitW_len h2; have h4 := (St.of ((asks_zero h1).2 l (by simp))).len; have h5 := (St.of ((asks_zero h1).2 m (by simp))).len
   refine ev_pos rfl (ev_bind1 (rlist_ev w n 0 20000 hw) ?_)
   rw [pos_iff b1 h2]
   cases hp : decide (0 ≤ Lib.minOf w) with
   | false => rw [Bool.false_and, Bool.and_false]; exact ev_neg (by decide) (Ev.now _)
   | true =>
    refine ev_pos rfl (ev_bind1 (rholds_ev b2 h3 n b3 b4) ?_)
    cases holdsS w ts with
    | false => exact ev_neg (by decide) (Ev.now _)
    | true => exact ev_pos rfl (ev_bind1 (product_ev w m (by omega) (by omega)) (ev_bind1 (product_ev w l (by omega) (by omega)) (Ev.now _)))
 ·
  rw [if_neg h1, if_neg h1]; exact ev_neg h1 (Ev.now _)
/-! ### Turned -/
def turn (t : S64) : S64 := ⟨t.f1, t.f0⟩
def turned (ts : List S64) : List S64 := ts.map turn
theorem turned_turned (ts : List S64) : turned (turned ts) = ts := by simp [turned, turn, Function.comp_def]
theorem okT_turn (n : Int) (t : S64) : okT n (turn t) = okT n t := by simp [okT, turn, Bool.and_comm]
theorem okB_turned (n : Int) (ts : List S64) : okB n (turned ts) = okB n ts := by simp [okB, turned, List.all_map, Function.comp_def, okT_turn]
theorem holds_turned (w : List Int) (ts : List S64) : holdsS w (turned ts) = holdsS w ts := by
 rw [holdsS, turned, List.all_map, holdsS]
 congr 1
 funext t
 show decide (dot 0 w t.f1 = dot 0 w t.f0) = decide (dot 0 w t.f0 = dot 0 w t.f1)
 exact decide_eq_decide.2 eq_comm
def TurnedS (n : Int) (ts : List S64) : Int × List S64 × Int := if okB n ts = true then (n, turned ts, 0) else (0, [], 60)
theorem Clone_val (l : List Int) (h : l.length ≤ 6) : slices_Clone_int_int.f l = some l := if_pos (by omega)
theorem Turned_ev (n : Int) (ts : List S64) : Ev (fun k => key_Turned.f k n ts) (TurnedS n ts) := by
 unfold key_Turned.f TurnedS
 refine ev_val (open_val n ts []) ?_
 unfold asks
 cases hb : okB n ts with
 | false => exact ev_neg (by simp) (Ev.now _)
 | true =>
  obtain ⟨⟨b1, b2⟩, b3, b4⟩ := (okB_iff n ts).1 hb
  refine ev_pos rfl ?_
  have H : ∀ (d i : Nat) (acc : List S64), i + d = ts.length → acc.length ≤ i → Ev (fun k => key_Turned.l0 k ts (ts.length : Int) (i : Int) n acc) (n, acc ++ turned (ts.drop i), 0) := by
   intro d
   induction d with
   | zero =>
    intro i acc hi ha
    rw [List.drop_eq_nil_of_le (by omega : ts.length ≤ i), turned, List.map_nil, List.append_nil]
    refine Ev.step (fun k => by rw [key_Turned.l0]) (ev_neg (by omega) ?_); exact Ev.now _
   | succ d ih =>
    intro i acc hi ha
    have hlt : i < ts.length := by omega
    obtain ⟨⟨a, b⟩, c, e⟩ := (okT_iff n ts[i]).1 (b4 _ (List.getElem_mem hlt))
    refine Ev.step (fun k => by rw [key_Turned.l0]) (ev_pos (by omega) (ev_pos (by omega) (ev_pos (by omega) ?_)))
    rw [rd_S ts i hlt, wrap_succ (l := ts.length) i hlt (by omega)]
    refine ev_val (Clone_val _ (by omega)) (ev_val (Clone_val _ (by omega)) (ev_pos (by omega) ?_))
    have := ih (i + 1) (acc ++ [⟨ts[i].f1, ts[i].f0⟩]) (by omega) (by simp; omega)
    have e : acc ++ turned (ts.drop i) = (acc ++ [⟨ts[i].f1, ts[i].f0⟩]) ++ turned (ts.drop (i + 1)) := by rw [List.drop_eq_getElem_cons hlt]; unfold turned; rw [List.map_cons, List.append_assoc]; rfl
    rw [e]
    exact this
  have := H ts.length 0 [] (by omega) (by simp)
  simpa using this
theorem rTurned_ev (n : Int) (ts : List S64) (hf : Fits ts) : Ev (fun k => dropperref06_Turned.f k n ts) (TurnedS n ts) := by
 unfold dropperref06_Turned.f TurnedS
 refine ev_bind1 (rValid_ev n ts hf) ?_
 cases hb : okB n ts with
 | false => exact ev_neg (by decide) (Ev.now _)
 | true =>
  obtain ⟨⟨b1, b2⟩, b3, b4⟩ := (okB_iff n ts).1 hb
  refine ev_pos rfl ?_
  have H : ∀ (d i : Nat) (acc : List S64), i + d = ts.length → acc.length ≤ i → Ev (fun k => dropperref06_Turned.l0 k (i : Int) n ts n acc) (n, acc ++ turned (ts.drop i), 0) := by
   intro d
   induction d with
   | zero =>
    intro i acc hi ha
    rw [List.drop_eq_nil_of_le (by omega : ts.length ≤ i), turned, List.map_nil, List.append_nil]
    refine Ev.step (fun k => by rw [dropperref06_Turned.l0]) (ev_neg (by omega) ?_); exact Ev.now _
   | succ d ih =>
    intro i acc hi ha
    have hlt : i < ts.length := by omega
    obtain ⟨⟨a, b⟩, c, e⟩ := (okT_iff n ts[i]).1 (b4 _ (List.getElem_mem hlt))
    refine Ev.step (fun k => by rw [dropperref06_Turned.l0]) (ev_pos (by omega) (ev_pos (by omega) ?_))
    rw [rd_S ts i hlt, wrap_succ (l := ts.length) i hlt (by omega)]
    refine ev_some (ev_pos (by simp; omega) (ev_some (ev_pos (by simp; omega) (ev_pos (by omega) ?_))))
    have := ih (i + 1) (acc ++ [⟨ts[i].f1, ts[i].f0⟩]) (by omega) (by simp; omega)
    have e : acc ++ turned (ts.drop i) = (acc ++ [⟨ts[i].f1, ts[i].f0⟩]) ++ turned (ts.drop (i + 1)) := by rw [List.drop_eq_getElem_cons hlt]; unfold turned; rw [List.map_cons, List.append_assoc]; rfl
    rw [e]
    exact this
  have := H ts.length 0 [] (by omega) (by simp)
  simpa using this
theorem sameB_refl (n : Int) (ts : List S64) (hf : Fits ts) : Ev (fun k => dropperlaw06_sameBoards.f k n ts n ts) true := by
 unfold dropperlaw06_sameBoards.f
 refine ev_pos rfl ?_
 rw [show ((ts.length : Int) != (ts.length : Int)) = false by simp]
 refine Ev.step (fun k => by rw [dropperlaw06_sameBoards.j0]) ?_
 refine ev_neg (by decide) ?_
 refine ev_loop (l := ts) hf.1 (F := fun k i => dropperlaw06_sameBoards.l0 k i n ts n ts) (fun _ => true) ?_ ?_
 ·
  refine Ev.step (fun k => by rw [dropperlaw06_sameBoards.l0]) (ev_neg (by omega) ?_); exact Ev.now _
 ·
  intro i h hw ih
  have hfi := hf.2 ts[i] (List.getElem_mem h)
  refine Ev.step (fun k => by rw [dropperlaw06_sameBoards.l0]) (ev_pos (by omega) (ev_pos (by omega) (ev_pos (by omega) ?_)))
  rw [rd_S ts i h, hw]
  exact ev_bind1 (same_refl _ hfi.1) (ev_pos rfl (ev_bind1 (same_refl _ hfi.2) (ev_pos rfl ih)))
end Go.Proofs.Ytgdfakmlpdeabaa.Keys
