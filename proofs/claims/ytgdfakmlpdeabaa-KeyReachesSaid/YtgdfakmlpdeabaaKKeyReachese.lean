-- Written by wip/pack.py of this repo: texts of this claim, put together.
import Derived.Test.YtgdfakmlpdeabaaKKeyReachesd
namespace Go.Proofs.Ytgdfakmlpdeabaa.XKey
open Go.RowKit Go.Proofs.YtgdfakmlpdeabaaW.PrintWords Go.Proofs.YtgdfakmlpdeabaaW.PrintLast Go.Proofs.YtgdfakmlpdeabaaW.PrintMore
attribute [local go_sem] max2_int min2_int max_two min_two max_three min_three max_four min_four   -- for this text's walks alone
set_option linter.unusedVariables false
set_option linter.unusedSimpArgs false
/-! ### dropperref06_found: function 74 -/
mutual
def dropperref06_found.l0 : Nat → List S87 → List ByteArray → Int → Int → List S64 → Option (List S87 × Bool)
 | 0, _, _, _, _, _ => none
 | k + 1, x6, q, x8, x238000, x238001 => if x8 < (x6.length : Int) then (dropperref06_found.l1 k x6 q x8 0 x238000 x238001) else (some (x6, true))
def dropperref06_found.l1 : Nat → List S87 → List ByteArray → Int → Int → Int → List S64 → Option (List S87 × Bool)
 | 0, _, _, _, _, _, _ => none
 | k + 1, x6, q, x8, x9, x238000, x238001 => if x9 < (x238001.length : Int) then (if 0 ≤ x9 then (if 0 ≤ x8 then (if x8 < (x6.length : Int) then ((dropperref06_after.f k ((rd_T64 x238001 x9).f0) ((rd_T64 x238001 x9).f1) ((rd_T87 x6 x8).f0)).bind fun bt245 => (if bt245.2 = true then ((dropperref06_text.f k bt245.1).bind fun t249 => (if t249.size ≤ 10000 then (dropperref06_found.j2 k x6 q x8 x9 bt245.1 (inT t249 q) x238000 x238001) else (none))) else (dropperref06_found.j2 k x6 q x8 x9 bt245.1 true x238000 x238001))) else (none)) else (none)) else (none)) else (dropperref06_found.l0 k x6 q (wrap64 (x8 + 1)) x238000 x238001)
def dropperref06_found.j2 : Nat → List S87 → List ByteArray → Int → Int → List Int → Bool → Int → List S64 → Option (List S87 × Bool)
 | 0, _, _, _, _, _, _, _, _ => none
 | k + 1, x6, q, x8, x9, x10, x53, x238000, x238001 => if x53 = true then (dropperref06_found.l1 k x6 q x8 (wrap64 (x9 + 1)) x238000 x238001) else (if (x6.length : Int) = 300 then (some (([] : List S87), false)) else ((dropperref06_text.f k x10).bind fun t250 => (if t250.size ≤ 10000 ∧ q.length < 10000 then ((some (([] : List Int) : List Int)).bind fun y251 => (if 0 ≤ x8 then (if x8 < (x6.length : Int) then (if y251.length + ((rd_T87 x6 x8).f1).length < 17592186044416 then ((some (y251 ++ ((rd_T87 x6 x8).f1) : List Int)).bind fun y255 => (if y255.length < 17592186044416 then (if x6.length < 2932031007402 then (dropperref06_found.l1 k (x6 ++ [(⟨x10, (y255 ++ [x9])⟩ : S87)]) (t250 :: q) x8 (wrap64 (x9 + 1)) x238000 x238001) else (none)) else (none))) else (none)) else (none)) else (none))) else (none))))
end
def dropperref06_found.f (k : Nat) (a0_0 : Int) (l0_1 : List S64) (l1 : List Int) : Option (List S87 × Bool) := (dropperref06_text.f k l1).bind fun t241 => (if t241.size ≤ 10000 then (dropperref06_found.l0 k (([(⟨l1, ([] : List Int)⟩ : S87)] : List S87)) [t241] 0 a0_0 l0_1) else (none))
def dropperref06_found.T9 : Bool × List (List Nat × List Nat) := (true, [([], []), ([0], [0]), ([], []), ([1, 2], [1, 2]), ([3], [3]), ([], []), ([], []), ([5, 6], [5, 6]), ([7], [7]), ([8], [8]), ([4, 9], [4, 9]), ([10], [10]), ([11], [11]), ([11], [11]), ([12, 10, 0, 1, 2, 3, 4, 5, 6, 7, 8, 9, 10, 11, 12], [12]), ([13, 14, 0, 1, 2, 3, 4, 5, 6, 7, 8, 9, 10, 11, 12, 13, 14], [13])])
def dropperref06_found.B9 : List Nat := [0, 1, 0, 7, 15, 0, 0, 96, 224, 480, 1023, 2047, 4095, 4095, 8191, 32767]
theorem dropperref06_found.tab9 : rtab .any (opsOf Try.f74 9) = dropperref06_found.T9 := by kernel_rfl
theorem dropperref06_found.bits9 : waitsOk dropperref06_found.T9.2 dropperref06_found.B9 = true := by kernel_rfl
set_option maxHeartbeats 8000000 in
set_option maxRecDepth 100000 in
theorem dropperref06_found.calls (k : Nat) (a0_0 : Int) (A0_1 : Option Addr) (c0_1 : Nat) (l0_1 : List (S64)) (P1_ : Nat → Prop) (A1 : Option Addr) (c1 : Nat) (l1 : List Int) (r1 : List (S87)) (r2 : Bool) (w : World) (hr0_1 : Kd.C k64 w A0_1 l0_1.length l0_1) (hc0_1 : l0_1.length ≤ c0_1) (hs1 : Kd.V (Kd.int .i64) 3 w w.heap.size (fun k_ => P1_ k_) (.slice A1 l1.length c1) l1) (h : dropperref06_found.f k a0_0 l0_1 l1 = some (r1, r2)) :
  Calls Try.prog 74 #[.agg #[.int .i64 a0_0, .slice A0_1 l0_1.length c0_1], .slice A1 l1.length c1] w fun e w' => ∃ v0_ : Value, e = .returned (.tuple #[v0_, .bool r2]) ∧ Kd.N k87 87 w' w.heap.size (fun k_ => (P1_ k_ ∨ w.heap.size ≤ k_)) v0_ r1 ∧ Below w.heap.size w w' := by
 have hu24 := Try.underlying24
 have hu87 := Try.underlying87
 have hu64 := Try.underlying64
 have HR0_1 := Aside0.mk hr0_1
 have HC0_1 := Aside0.mk hc0_1
 clear hr0_1 hc0_1
 have HO1 := Aside0.mk (show Kd.V (Kd.int .i64) 3 w w.heap.size (fun k_ => (P1_ k_ ∨ w.heap.size ≤ k_)) (.slice A1 l1.length c1) l1 from Kd.V_mono hs1 (fun k_ hk => .inl hk))
 have HB := Aside0.mk (Below.refl w.heap.size w)
 have H : ((dropperref06_text.f k l1).bind fun t241 => (if t241.size ≤ 10000 then (dropperref06_found.l0 k (([(⟨l1, ([] : List Int)⟩ : S87)] : List (S87))) [t241] 0 a0_0 l0_1) else (none))) = some (r1, r2) := h
 clear h
 obtain ⟨y238, hy238⟩ : ∃ y_ : List (S87), y_ = (([(⟨l1, ([] : List Int)⟩ : S87)] : List (S87))) := ⟨_, rfl⟩
 replace H : ((dropperref06_text.f k l1).bind fun t241 => (if t241.size ≤ 10000 then (dropperref06_found.l0 k y238 [t241] 0 a0_0 l0_1) else (none))) = some (r1, r2) := by first | (rw [hy238]; with_reducible exact H) | (have H2_ := (Option.bind_some _ _).symm.trans H; rw [hy238]; with_reducible exact H2_) | (have H2_ := (Option.bind_some _ _).symm.trans H; with_reducible exact H2_) | with_reducible exact H | (rw [hy238]; exact H) | exact H
 have Ny238 := Aside0.mk hy238
 clear hy238
 replace H := Option.bind_eq_some_iff.mp H
 obtain ⟨t241, A30, H⟩ := H
 try dsimp only at H
 have A3 := Aside0.mk A30
 clear A30
 by_cases cq3 : ¬ t241.size ≤ 10000
 ·
  rw [if_neg cq3] at H; exact absurd H (by simp)
 replace cq3 := Decidable.not_not.1 cq3
 rw [if_pos cq3] at H
 have CQ3 := Aside0.mk cq3
 clear cq3
 have hu113 := Try.underlying113
 have H' := Aside0.mk H
 clear H
 go_enter Try.func74, Try.ntmps74
 go_wp2_with (first | ((with_reducible refine gate_dst (N := 2) rfl ?_); refine box_event ?hg (N := 2) ?hd (cs := #[.int .i64 a0_0, .slice A0_1 l0_1.length c0_1]) (t := 24) ?hr ?_; (case hd => rfl); (case hg => rfl); (case hr => first | (go_simp; done) | (go_simp; rfl)); intro gb237 hg w4 hbox hb; have BK237 := Aside0.mk (hbox); have GW237 := bsz (w := w) hg; have GE237 := GW237; replace HO1 := Aside0.mk (Kd.V_below (Kd.V_elderB (by (with_reducible repeat (first | apply Kd.V_alloc | apply Kd.V_drewN | apply Kd.V_drew)); exact HO1.out) gb237 (Nat.le_of_eq hg.symm)) hb); replace HB := Aside0.mk (below_step bel hb); clear hb hbox hg) | ((with_reducible refine gate_dst (N := 14) rfl ?_); refine Kd.N_lit k87 _ 87 ?hg (N' := 14) ?hd (xs := ([(⟨l1, ([] : List Int)⟩ : S87)] : List (S87))) (inner := [.slice A1 l1.length c1, .slice none 0 0]) (ok := (fun k_ => (P1_ k_ ∨ w.heap.size ≤ k_) ∧ k_ ≠ gb237)) (okp := (fun k_ => (P1_ k_ ∨ w.heap.size ≤ k_) ∧ k_ ≠ gb237)) ?hr ?hp (fun _ hk => hk) ((show ∀ k_, w4.heap.size ≤ k_ → (fun k_ => (P1_ k_ ∨ w.heap.size ≤ k_) ∧ k_ ≠ gb237) k_ from fun k_ hk => ⟨(.inr (Nat.le_trans (below_size bel) hk)), Kd.freshB (g := gb237) (o := .cells #[.int .i64 a0_0, .slice A0_1 l0_1.length c0_1] 24 (0, 0)) blkz k_ hk⟩) _ (Nat.le_refl _)) (Below.refl _ _) (Nat.le_refl _) (by simp) ?_; (case hd => rfl); (case hg => rfl); (case hr => first | (go_simp; done) | (go_simp; rfl)); (case hp => exact (Reps.c2 (show Kd.FK k87 _ _ (⟨l1, ([] : List Int)⟩ : S87) [.slice A1 l1.length c1, .slice none 0 0] from (k87_mkF _ _ (⟨l1, ([] : List Int)⟩ : S87) (Kd.V_reads' (Kd.V_mono (ok' := (fun k_ => (P1_ k_ ∨ w.heap.size ≤ k_) ∧ k_ ≠ gb237)) (HO1.out) (fun k_ hk => ⟨hk.1, hk.2⟩))).2.1 (Kd.V_F (Kd.V_mono (ok' := (fun k_ => (P1_ k_ ∨ w.heap.size ≤ k_) ∧ k_ ≠ gb237)) (HO1.out) (fun k_ hk => ⟨hk.1, hk.2⟩))) (Nat.le_refl _) (Kd.F_nil _ _ _))) (Reps.none _ _))); intro v239 w5 ho6 hb hg_ hnew_; clear hg_ hnew_; (first | rw [← Ny238.out] at ho6 | (simp only [Int.reduceToNat] at ho6; rw [← Ny238.out] at ho6)); have HO240 := Aside0.mk (Kd.N_lower ho6 (below_size bel)); replace HO1 := Aside0.mk (Kd.V_elder' (by (with_reducible repeat (first | apply Kd.V_alloc | apply Kd.V_drewN | apply Kd.V_drew)); exact HO1.out) (Kd.N_base ho6) hb); replace BK237 := Aside0.mk (blk_below (g := gb237) blkz hb); replace HB := Aside0.mk (below_step bel hb); clear hb ho6) | ((with_reducible refine gate_callee (f := 98) rfl ?_); refine goesL_ (some 17) rfl rfl Try.func98 (by kernel_rfl) rfl #[.slice A1 l1.length c1] rfl mapz ?_; (with_reducible refine (dropperref06_text.calls k _ _ l1 t241 _ ?side1 ?side2 A3.out).mono ?_); (case side1 => repeat (first | exact (Kd.V_reads' HO1.out).2.2 | (with_reducible refine Kd.C_alloc ?_ _) | (with_reducible refine Kd.C_drewN ?_ _) | (with_reducible refine Kd.C_drew ?_))); (case side2 => exact (Kd.V_reads' HO1.out).2.1); rintro e w' ⟨rfl, ⟨nd, rfl⟩⟩; refine ⟨_, rfl, ?_⟩) | ((with_reducible refine gate_dst (N := 15) rfl ?_); refine tset_make rfl rfl 9 4 ?_; intro gb242 w7 hg hm hb; have BK242 := Aside0.mk hm; have GW242 := bsz (w := w) hg; have GE242 := GW242; have NB237_242 := neL (g := gb237) hg; have NB242_237 := neR (g := gb237) hg; replace HO1 := Aside0.mk (Kd.V_below (Kd.V_elderB (by (with_reducible repeat (first | apply Kd.V_alloc | apply Kd.V_drewN | apply Kd.V_drew)); exact HO1.out) gb242 (Nat.le_of_eq hg.symm)) hb); replace HO240 := Aside0.mk (Kd.N_below (Kd.N_elderB (by (with_reducible repeat (first | apply Kd.N_alloc | apply Kd.N_drewN | apply Kd.N_drew)); exact HO240.out) gb242 (Nat.le_of_eq hg.symm)) hb); replace BK237 := Aside0.mk (blk_below (g := gb237) blkz hb); replace HB := Aside0.mk (below_step bel hb); clear hb hm hg) | ((with_reducible refine gate_insert (t := 113) (m := .tmp 15) (x := .tmp 17) (v := .const (.bool true)) rfl ?_); refine tset_store (t := 113) rfl (.tmp 15) (.tmp 17) (.const (.bool true)) (.inr rfl) rfl t241 rfl rfl (by (with_reducible repeat (first | apply TSet.alloc | apply TSet.drewN | apply TSet.drew)); exact BK242.out) Try.underlying9 Try.underlying113 Try.underlying4 (by simp [maxLen]) (Nat.le_trans CQ3.out (by decide)) ?_; intro w8 hm hg; have n0_ := Aside0.mk (Kd.N_grown (w1 := w8) (by (with_reducible repeat (first | apply Kd.N_alloc | apply Kd.N_drewN | apply Kd.N_drew)); exact HO240.out) hg (fun k_ hk e_ => by injection e_ with e_; first | exact hk.2 e_ | exact hk.2.2 e_)); have n1_ := Aside0.mk (blk_grown (g := gb237) (o := .cells #[.int .i64 a0_0, .slice A0_1 l0_1.length c0_1] 24 (0, 0)) blkz hg (TSet.ne_box BK242.out BK237.out)); have n2_ := Aside0.mk (Below.grown (show Below w.heap.size w _ from bel) hg (below_size bel) (fun j_ hj_ => by injection hj_ with hj_; rw [← hj_]; exact GW242.out)); clear HO240 BK237 HB BK242; have HO240 := n0_; have BK237 := n1_; have HB := n2_; have BK242 := Aside0.mk hm; clear n0_ n1_ n2_ hm hg))
 go_loopg [6, 8] k (fun kq v6 v8 w' => ∃ (x6_1 : List (S87)) (q_1 : List ByteArray) (x8_1 : Int), v8 = .int .i64 x8_1 ∧ Aside0 (dropperref06_found.l0 kq x6_1 q_1 x8_1 a0_0 l0_1 = some (r1, r2)) ∧ Aside0 (kq ≤ k) ∧ Aside0 (Kd.N k87 87 w' w.heap.size (fun k_ => (P1_ k_ ∨ w.heap.size ≤ k_) ∧ k_ ≠ gb237 ∧ k_ ≠ gb242) v6 x6_1) ∧ Aside0 (w'.heap[gb237]? = some (.cells #[.int .i64 a0_0, (.slice A0_1 l0_1.length c0_1)] 24 (0, 0))) ∧ Aside0 (TSet Try.prog 9 4 w' gb242 q_1) ∧ Aside0 (Below w.heap.size w w'))
 case atStart => exact ⟨(y238), [t241], (0), rsz, H', ⟨Nat.le_refl _⟩, ⟨by (with_reducible repeat (first | apply Kd.N_alloc | apply Kd.N_drewN | apply Kd.N_drew)); exact Kd.N_mono HO240.out (fun _ hk => ⟨hk.1.1, ⟨hk.1.2, hk.2⟩⟩)⟩, ⟨blkz⟩, ⟨by (with_reducible repeat (first | apply TSet.alloc | apply TSet.drewN | apply TSet.drew)); exact BK242.out⟩, ⟨bel⟩⟩
 case round =>
  clear H'
  (try clear c1); (try clear c2); (try clear p2); (try clear c7)
  obtain ⟨x6_1, q_1, x8_1, rfl, HA, HK1, HO_6, BK237, BK242, HB⟩ := hrel
  cases gk with
  | zero => exact absurd HA.out (by simp [dropperref06_found.l0])
  | succ k1 =>
   have H := HA.out
   clear HA
   simp only [dropperref06_found.l0] at H
   by_cases c8 : x8_1 < (x6_1.length : Int)
   ·
    rw [if_pos c8] at H
    have c8b0 : decide (x8_1 < (x6_1.length : Int)) = true := decide_eq_true c8
    clear c8
    have H' := Aside0.mk H
    clear H
    obtain ⟨Ao9, co9, eo9⟩ := Kd.N_slice HO_6.out
    subst eo9
    go_wp2
    go_loopg [6, 9] k1 (fun kq v6 v9 w' => ∃ (x6_2 : List (S87)) (q_2 : List ByteArray) (x9_2 : Int), v9 = .int .i64 x9_2 ∧ Aside0 (dropperref06_found.l1 kq x6_2 q_2 x8_1 x9_2 a0_0 l0_1 = some (r1, r2)) ∧ Aside0 (kq ≤ k1) ∧ Aside0 (Kd.N k87 87 w' w.heap.size (fun k_ => (P1_ k_ ∨ w.heap.size ≤ k_) ∧ k_ ≠ gb237 ∧ k_ ≠ gb242) v6 x6_2) ∧ Aside0 (w'.heap[gb237]? = some (.cells #[.int .i64 a0_0, (.slice A0_1 l0_1.length c0_1)] 24 (0, 0))) ∧ Aside0 (TSet Try.prog 9 4 w' gb242 q_2) ∧ Aside0 (Below w.heap.size w w'))
    case atStart => exact ⟨(x6_1), q_1, (0), rsz, H', ⟨Nat.le_refl _⟩, ⟨by (with_reducible repeat (first | apply Kd.N_alloc | apply Kd.N_drewN | apply Kd.N_drew)); exact HO_6.out⟩, ⟨blkz⟩, ⟨by (with_reducible repeat (first | apply TSet.alloc | apply TSet.drewN | apply TSet.drew)); exact BK242.out⟩, ⟨bel⟩⟩
    case round =>
     clear H'
     (try clear c1); (try clear c2); (try clear p2); (try clear c7); (try clear c8); (try clear c8b0); (try clear c9); (try clear p2)
     obtain ⟨x6_2, q_2, x9_2, rfl, HA, HK2, HO_6, BK237, BK242, HB⟩ := hrel
     cases gk with
     | zero => exact absurd HA.out (by simp [dropperref06_found.l1])
     | succ k2 =>
      have H := HA.out
      clear HA
      simp only [dropperref06_found.l1] at H
      by_cases c10 : x9_2 < (l0_1.length : Int)
      ·
       rw [if_pos c10] at H
       have c10b0 : decide (x9_2 < (l0_1.length : Int)) = true := decide_eq_true c10
       clear c10
       by_cases c11 : 0 ≤ x9_2
       ·
        rw [if_pos c11] at H
        have c11b0 : decide (0 ≤ x9_2) = true := decide_eq_true c11
        clear c11
        by_cases c12 : 0 ≤ x8_1
        ·
         rw [if_pos c12] at H
         have c12b0 : decide (0 ≤ x8_1) = true := decide_eq_true c12
         clear c12
         by_cases c13 : x8_1 < (x6_2.length : Int)
         ·
          rw [if_pos c13] at H
          have c13b0 : decide (x8_1 < (x6_2.length : Int)) = true := decide_eq_true c13
          clear c13
          replace H := Option.bind_eq_some_iff.mp H
          obtain ⟨⟨t245, t248⟩, A140, H⟩ := H
          try dsimp only at H
          have A14 := Aside0.mk A140
          clear A140
          have HC15 := Aside0.mk H
          clear H
          have hnb16 := NB237_242.out
          have hnc16 := NB242_237.out
          obtain ⟨hcz17_0, hcz17_1⟩ := bc2 BK237.out
          obtain ⟨hfz17_0, hfz17_1⟩ := bf2 BK237.out
          try go_wp2
          have n0_ := Aside0.mk (Kd.N_drew HO_6.out)
          have n1_ := Aside0.mk (blk_drew BK237.out)
          have n2_ := Aside0.mk (TSet.drew BK242.out)
          have n3_ := Aside0.mk (below_drew1 HB.out)
          clear HO_6
          clear BK237
          clear BK242
          clear HB
          have HO_6 := n0_
          have BK237 := n1_
          have BK242 := n2_
          have HB := n3_
          clear n0_ n1_ n2_ n3_
          have p243 : 0 ≤ (x9_2 : Int) := of_decide_eq_true asz
          have q243 : x9_2 < (l0_1.length : Int) := of_decide_eq_true asz
          obtain ⟨ad243, A243_0, c243_0, A243_1, c243_1, e243, hx243_0, hx243_1, hl243_0, hi243_0, hl243_1, hi243_1⟩ := at_T64 HR0_1.out x9_2 p243 q243
          have hw243_1 := hx243_1
          have hw243_0 := hx243_0
          cases e243
          replace hx243_0 := (HB.out.cell (World.block_lt_of_cell? w _ hx243_0)).trans hx243_0
          replace hx243_1 := (HB.out.cell (World.block_lt_of_cell? w _ hx243_1)).trans hx243_1
          have HR243_0 := Aside0.mk hi243_0
          have HC243_0 := Aside0.mk hl243_0
          clear hi243_0 hl243_0
          have HR243_1 := Aside0.mk hi243_1
          have HC243_1 := Aside0.mk hl243_1
          clear hi243_1 hl243_1
          replace p243 := eq_true p243
          replace q243 := eq_true q243
          obtain ⟨Ao19, co19, eo19⟩ := Kd.N_slice HO_6.out
          (first | subst eo19 | (injection eo19 with f1_ f2_ f3_; have f4_ := f1_.symm; have f5_ := f3_.symm; clear f1_ f2_ f3_; subst f4_; subst f5_))
          have p244 : 0 ≤ (x8_1 : Int) := of_decide_eq_true asz
          have q244 : x8_1 < (x6_2.length : Int) := of_decide_eq_true asz
          obtain ⟨ad244, A244_0, c244_0, A244_1, c244_1, e244, hx244_0, hx244_1, hl244_0, hi244_0, hl244_1, hi244_1⟩ := at_T87 (Kd.N_reads' HO_6.out).2.2 x8_1 p244 q244
          cases e244
          obtain ⟨ce244, hce244, hMe244, hcc244⟩ := Kd.N_get HO_6.out z87 x8_1 p244 (by first | exact q244 | exact of_decide_eq_true asz | (have e_ := (Kd.N_reads' HO_6.out).1; omega))
          obtain ⟨ua244_0, uc244_0, ua244_1, uc244_1, rfl, ul244_0, ge244_0, ul244_1, ge244_1⟩ := k87_openF hMe244
          have hv244_0 := hcc244 0 _ rfl
          rw [Nat.add_zero] at hv244_0
          replace hv244_0 := Option.some.inj (hv244_0.symm.trans hx244_0)
          injection hv244_0 with hva_ hvn_ hvc_
          rw [hva_] at ge244_0
          rw [hvc_] at ul244_0
          have HL244_0 := Aside0.mk (show Kd.V (Kd.int .i64) 3 _ w.heap.size _ _ ((rd_T87 x6_2 x8_1).f0) from Kd.V_mk ul244_0 ge244_0)
          clear hva_ hvn_ hvc_ ge244_0 ul244_0
          have hv244_1 := hcc244 1 _ rfl
          rw [add_field _ _ 1 (by omega)] at hv244_1
          replace hv244_1 := Option.some.inj (hv244_1.symm.trans hx244_1)
          injection hv244_1 with hva_ hvn_ hvc_
          rw [hva_] at ge244_1
          rw [hvc_] at ul244_1
          have HL244_1 := Aside0.mk (show Kd.V (Kd.int .i64) 3 _ w.heap.size _ _ ((rd_T87 x6_2 x8_1).f1) from Kd.V_mk ul244_1 ge244_1)
          clear hva_ hvn_ hvc_ ge244_1 ul244_1
          clear hcc244 hce244
          have HR244_0 := Aside0.mk hi244_0
          have HC244_0 := Aside0.mk hl244_0
          clear hi244_0 hl244_0
          have HR244_1 := Aside0.mk hi244_1
          have HC244_1 := Aside0.mk hl244_1
          clear hi244_1 hl244_1
          replace p244 := eq_true p244
          replace q244 := eq_true q244
          refine start_ (n := 16) (S := fun w' => w'.cell? ⟨gb237, 0, none⟩ = some (.int .i64 a0_0) ∧ w'.cell? ⟨gb237, 1, none⟩ = some (.slice (some ad243) l0_1.length c0_1) ∧ w'.cell? (ad243.add ((x9_2).toNat * 2)) = some (.slice A243_0 ((rd_T64 l0_1 x9_2).f0).length c243_0) ∧ w'.cell? ⟨(ad243.add ((x9_2).toNat * 2)).block, (ad243.add ((x9_2).toNat * 2)).off + 1, none⟩ = some (.slice A243_1 ((rd_T64 l0_1 x9_2).f1).length c243_1) ∧ w'.cell? (ad244.add ((x8_1).toNat * 2)) = some (.slice A244_0 ((rd_T87 x6_2 x8_1).f0).length c244_0) ∧ w'.cell? ⟨(ad244.add ((x8_1).toNat * 2)).block, (ad244.add ((x8_1).toNat * 2)).off + 1, none⟩ = some (.slice A244_1 ((rd_T87 x6_2 x8_1).f1).length c244_1)) (ds := []) #[false, false, false, false, false, false, false, false, false, false, false, false, false, false, false, false] (by kernel_rfl) rfl rfl ⟨(blk_cell BK237.out 0).trans rfl, (blk_cell BK237.out 1).trans rfl, ((HB.out.cell (World.block_lt_of_cell? w _ hw243_0)).trans hw243_0), ((HB.out.cell (World.block_lt_of_cell? w _ hw243_1)).trans hw243_1), hx244_0, hx244_1⟩ (fun hHeld => ?_); refine with_tabW dropperref06_found.tab9 dropperref06_found.bits9 (fun HT_ HW_ => ?_)
          generalize wr.drew = w18 at HO_6 BK237 BK242 HB HL244_0 HL244_1 HR243_0 HR243_1 HR244_0 HR244_1 hx243_0 hx243_1 hx244_0 hx244_1 hHeld ⊢
          refine pst (i := 0) (N := some 33) (bz 16 1) (any_of HT_.out (by kernel_rfl)) ?_
          refine pst (i := 2) (N := some 35) (bz 16 5) (any_of HT_.out (by kernel_rfl)) ?_
          refine pst (i := 5) (N := some 38) (bz 16 37) (any_of HT_.out (by kernel_rfl)) ?_
          refine pst (i := 6) (N := some 39) (bz 16 101) (any_of HT_.out (by kernel_rfl)) ?_
          refine pst (i := 7) (N := some 40) (bz 16 229) (any_of HT_.out (by kernel_rfl)) ?_
          refine pst (i := 8) (N := some 41) (bz 16 485) (any_of HT_.out (by kernel_rfl)) ?_
          refine tst6 (i := 1) (N := some 34) (bz 16 487) (take_ofW HT_.out HW_.out (by kernel_rfl)) hHeld ?_
          refine pst (i := 3) (N := some 36) (bz 16 495) (any_of HT_.out (by kernel_rfl)) ?_
          refine tst6 (i := 4) (N := some 37) (bz 16 511) (take_ofW HT_.out HW_.out (by kernel_rfl)) hHeld ?_
          refine tst6 (i := 9) (N := some 42) (bz 16 1023) (take_ofW HT_.out HW_.out (by kernel_rfl)) hHeld ?_
          refine one_ (i := 10) (N := some 43) #[true, true, true, true, true, true, true, true, true, true, true, false, false, false, false, false] rfl rfl (one_of HT_.out (by kernel_rfl)) (by decide) (fun K hK => ?_)
          refine goes_ Try.func77 (by kernel_rfl) rfl #[.agg #[.slice A243_0 ((rd_T64 l0_1 x9_2).f0).length c243_0, .slice A243_1 ((rd_T64 l0_1 x9_2).f1).length c243_1], .slice A244_0 ((rd_T87 x6_2 x8_1).f0).length c244_0] (by rfl) rfl rfl mapz ?_
          with_reducible refine (dropperref06_after.calls k2 _ _ ((rd_T64 l0_1 x9_2).f0) _ _ ((rd_T64 l0_1 x9_2).f1) _ _ ((rd_T87 x6_2 x8_1).f0) t245 t248 _ ?side1 ?side2 ?side3 ?side4 ?side5 ?side6 A14.out).mono ?_
          (case side1 => exact cbz HR243_0)
          (case side2 => exact HC243_0.out)
          (case side3 => exact cbz HR243_1)
          (case side4 => exact HC243_1.out)
          (case side5 => repeat (first | exact (by repeat (first | (with_reducible exact HR244_0.out) | (with_reducible refine Kd.C_alloc ?_ _) | (with_reducible refine Kd.C_drewN ?_ _) | (with_reducible refine Kd.C_drew ?_) | exact HR244_0.out)) | (with_reducible refine Kd.C_alloc ?_ _) | (with_reducible refine Kd.C_drewN ?_ _) | (with_reducible refine Kd.C_drew ?_)))
          (case side6 => exact HC244_0.out)
          rintro e w20 ⟨v246, rfl, ho0, hb⟩
          have HS4_ := (hb.cell (World.block_lt_of_cell? _ _ (hHeld.2.2.2.2.1))).trans (hHeld.2.2.2.2.1)
          have HS5_ := (hb.cell (World.block_lt_of_cell? _ _ (hHeld.2.2.2.2.2))).trans (hHeld.2.2.2.2.2)
          refine ⟨_, rfl, ?_⟩
          have n0_ := Aside0.mk (Kd.N_elder' (by (with_reducible repeat (first | apply Kd.N_alloc | apply Kd.N_drewN | apply Kd.N_drew)); exact HO_6.out) (Kd.R_base ho0) hb)
          have n1_ := Aside0.mk (Kd.V_elder' (by (with_reducible repeat (first | apply Kd.V_alloc | apply Kd.V_drewN | apply Kd.V_drew)); exact HL244_0.out) (Kd.R_base ho0) hb)
          have n2_ := Aside0.mk (Kd.V_elder' (by (with_reducible repeat (first | apply Kd.V_alloc | apply Kd.V_drewN | apply Kd.V_drew)); exact HL244_1.out) (Kd.R_base ho0) hb)
          have n3_ := Aside0.mk (Kd.R_lower (Kd.R_newM (M := fun k_ => (w.heap.size ≤ k_)) ho0 (below_size bel) (fun k_ h_ => h_)) (below_size bel))
          have n4_ := Aside0.mk (blk_below (g := gb237) blkz hb)
          have n5_ := Aside0.mk (TSet.below (by (with_reducible repeat (first | apply TSet.alloc | apply TSet.drewN | apply TSet.drew)); exact BK242.out) hb)
          have n6_ := Aside0.mk (Kd.C_below (by repeat (first | (with_reducible exact HR244_0.out) | (with_reducible refine Kd.C_alloc ?_ _) | (with_reducible refine Kd.C_drewN ?_ _) | (with_reducible refine Kd.C_drew ?_) | exact HR244_0.out)) hb)
          have n7_ := Aside0.mk (Kd.C_below (by repeat (first | (with_reducible exact HR244_1.out) | (with_reducible refine Kd.C_alloc ?_ _) | (with_reducible refine Kd.C_drewN ?_ _) | (with_reducible refine Kd.C_drew ?_) | exact HR244_1.out)) hb)
          have n8_ := Aside0.mk (below_step bel hb)
          clear HO_6
          clear HL244_0
          clear HL244_1
          clear BK237
          clear BK242
          clear HR244_0
          clear HR244_1
          clear HB
          have HO_6 := n0_
          have HL244_0 := n1_
          have HL244_1 := n2_
          have HO247 := n3_
          have BK237 := n4_
          have BK242 := n5_
          have HR244_0 := n6_
          have HR244_1 := n7_
          have HB := n8_
          clear n0_ n1_ n2_ n3_ n4_ n5_ n6_ n7_ n8_
          (try clear hb)
          (try clear hb2)
          (try clear hk)
          (try clear hi)
          (try clear ho0)
          refine hK.out _ _ ⟨(blk_cell BK237.out 0).trans rfl, (blk_cell BK237.out 1).trans rfl, ((HB.out.cell (World.block_lt_of_cell? w _ hw243_0)).trans hw243_0), ((HB.out.cell (World.block_lt_of_cell? w _ hw243_1)).trans hw243_1), HS4_, HS5_⟩ (fun hHeld => ?_)
          clear hK K
          refine norm_ (a' := ?_) ?_ ?_
          rotate_left
          ·
           show Act.put _ (some 43) _ = _
           simp only [Act.put, List.setIfInBounds_toArray, List.set_cons_zero, List.set_cons_succ, i64_w, i32_w]
           rfl
          refine pst (i := 11) (N := some 32) (bz 16 4095) (any_of HT_.out (by kernel_rfl)) ?_
          refine pst (i := 12) (N := some 44) (bz 16 8191) (any_of HT_.out (by kernel_rfl)) ?_
          refine pst (i := 13) (N := some 45) (bz 16 16383) (any_of HT_.out (by kernel_rfl)) ?_
          refine pst (i := 14) (N := some 10) (bz 16 32767) (any_of HT_.out (by kernel_rfl)) ?_
          refine pst (i := 15) (N := some 11) (bz 16 65535) (any_of HT_.out (by kernel_rfl)) ?_
          refine done_ (done_of HT_.out (by kernel_rfl)) ?_
          go_upto_region 10 with (fail)
          go_cut [53] (fun v53 wc => ∃ (kq : Nat) (x53_14 : Bool), v53 = .bool x53_14 ∧ Aside0 (dropperref06_found.j2 kq x6_2 q_2 x8_1 x9_2 t245 x53_14 a0_0 l0_1 = some (r1, r2)) ∧ Aside0 (kq ≤ k2) ∧ Aside0 (Kd.N k87 87 wc w.heap.size (fun k_ => (P1_ k_ ∨ w.heap.size ≤ k_) ∧ some k_ ≠ (v246 : Value).ownBlock ∧ k_ ≠ gb237 ∧ k_ ≠ gb242) (.slice (some ad244) x6_2.length co19) x6_2) ∧ Aside0 (Kd.R (Kd.int .i64) 3 wc w.heap.size (fun k_ => (w.heap.size ≤ k_)) v246 t245) ∧ Aside0 (wc.heap[gb237]? = some (.cells #[.int .i64 a0_0, (.slice (some ad243) l0_1.length c0_1)] 24 (0, 0))) ∧ Aside0 (TSet Try.prog 9 4 wc gb242 q_2) ∧ Aside0 (Kd.C (Kd.int .i64) wc A244_0 ((rd_T87 x6_2 x8_1).f0).length ((rd_T87 x6_2 x8_1).f0)) ∧ Aside0 (Kd.C (Kd.int .i64) wc A244_1 ((rd_T87 x6_2 x8_1).f1).length ((rd_T87 x6_2 x8_1).f1)) ∧ Aside0 (Below w.heap.size w wc))
          case first =>
           have H := HC15.out
           clear HC15
           by_cases c21 : t248 = true
           ·
            subst c21
            rw [if_pos rfl] at H
            replace H := Option.bind_eq_some_iff.mp H
            obtain ⟨t249, A220, H⟩ := H
            try dsimp only at H
            have A22 := Aside0.mk A220
            clear A220
            by_cases cq22 : ¬ t249.size ≤ 10000
            ·
             rw [if_neg cq22] at H; exact absurd H (by simp)
            replace cq22 := Decidable.not_not.1 cq22
            rw [if_pos cq22] at H
            have hlk : ∀ m, (Instr.lookup 113 (.map (some gb242)) (.string t249) false).run Try.prog (w20.drewN m) = .ok (.bool (inT t249 q_2)) (w20.drewN m) := fun m => TSet.look (TSet.drewN BK242.out m) Try.underlying9 Try.underlying113 Try.underlying4 (by kernel_rfl) (Nat.le_trans cq22 (by decide))
            clear cq22
            have H' := Aside0.mk H
            clear H
            obtain ⟨Ao23, co23, eo23⟩ := Kd.R_slice HO247.out
            subst eo23
            go_wp2_with (first | (go_at_call 98; (with_reducible refine (dropperref06_text.calls k2 _ _ t245 t249 _ ?side1 ?side2 A22.out).mono ?_); (case side1 => repeat (first | exact (Kd.R_reads' HO247.out).2.2 | (with_reducible refine Kd.C_alloc ?_ _) | (with_reducible refine Kd.C_drewN ?_ _) | (with_reducible refine Kd.C_drew ?_))); (case side2 => exact (Kd.R_reads' HO247.out).2.1); rintro e w' ⟨rfl, ⟨nd, rfl⟩⟩))
            go_meet
            case rel => exact ⟨_, (inT t249 q_2), rsz, H', ⟨by have := HK1.out; have := HK2.out; first | omega | exact Nat.le_refl _⟩, ⟨by (with_reducible repeat (first | apply Kd.N_alloc | apply Kd.N_drewN | apply Kd.N_drew)); exact Kd.N_mono HO_6.out (fun _ hk => ⟨hk.1.1, ⟨hk.2, ⟨hk.1.2.1, hk.1.2.2⟩⟩⟩)⟩, ⟨by (with_reducible repeat (first | apply Kd.R_alloc | apply Kd.R_drewN | apply Kd.R_drew)); exact Kd.R_mono HO247.out (fun _ hk => hk.1)⟩, ⟨blkz⟩, ⟨by (with_reducible repeat (first | apply TSet.alloc | apply TSet.drewN | apply TSet.drew)); exact BK242.out⟩, ⟨by repeat (first | (with_reducible exact HR244_0.out) | (with_reducible refine Kd.C_alloc ?_ _) | (with_reducible refine Kd.C_drewN ?_ _) | (with_reducible refine Kd.C_drew ?_) | exact HR244_0.out)⟩, ⟨by repeat (first | (with_reducible exact HR244_1.out) | (with_reducible refine Kd.C_alloc ?_ _) | (with_reducible refine Kd.C_drewN ?_ _) | (with_reducible refine Kd.C_drew ?_) | exact HR244_1.out)⟩, ⟨bel⟩⟩
           ·
            replace c21 := Bool.eq_false_iff.mpr c21
            subst c21
            rw [if_neg (show ¬ (false = true) by decide)] at H
            have H' := Aside0.mk H
            clear H
            go_wp2
            go_meet
            case rel => exact ⟨_, (true), rsz, H', ⟨by have := HK1.out; have := HK2.out; first | omega | exact Nat.le_refl _⟩, ⟨by (with_reducible repeat (first | apply Kd.N_alloc | apply Kd.N_drewN | apply Kd.N_drew)); exact Kd.N_mono HO_6.out (fun _ hk => ⟨hk.1.1, ⟨hk.2, ⟨hk.1.2.1, hk.1.2.2⟩⟩⟩)⟩, ⟨by (with_reducible repeat (first | apply Kd.R_alloc | apply Kd.R_drewN | apply Kd.R_drew)); exact Kd.R_mono HO247.out (fun _ hk => hk.1)⟩, ⟨blkz⟩, ⟨by (with_reducible repeat (first | apply TSet.alloc | apply TSet.drewN | apply TSet.drew)); exact BK242.out⟩, ⟨by repeat (first | (with_reducible exact HR244_0.out) | (with_reducible refine Kd.C_alloc ?_ _) | (with_reducible refine Kd.C_drewN ?_ _) | (with_reducible refine Kd.C_drew ?_) | exact HR244_0.out)⟩, ⟨by repeat (first | (with_reducible exact HR244_1.out) | (with_reducible refine Kd.C_alloc ?_ _) | (with_reducible refine Kd.C_drewN ?_ _) | (with_reducible refine Kd.C_drew ?_) | exact HR244_1.out)⟩, ⟨bel⟩⟩
          case rest =>
           clear HC15
           (try clear c1); (try clear c2); (try clear p2); (try clear q2); (try clear hx2); (try clear c7); (try clear c8); (try clear c8b0); (try clear c9); (try clear c10); (try clear c10b0); (try clear c11); (try clear c11b0); (try clear c12); (try clear c12b0); (try clear c13); (try clear c13b0); (try clear c16); (try clear c21); (try clear hcz17_0); (try clear hcz17_1); (try clear hfz17_0); (try clear hfz17_1); (try clear hx243_0); (try clear hx243_1); (try clear hx244_0); (try clear hx244_1); (try clear p2); (try clear p243); (try clear p244); (try clear q243); (try clear q244)
           obtain ⟨kq, x53_14, rfl, HA, HJ14, HO_6, HO_10, BK237, BK242, HR244_0, HR244_1, HB⟩ := hcut
           cases kq with
           | zero => exact absurd HA.out (by simp [dropperref06_found.j2])
           | succ kj14 =>
            have H := HA.out
            clear HA
            simp only [dropperref06_found.j2] at H
            by_cases c24 : x53_14 = true
            ·
             subst c24
             rw [if_pos rfl] at H
             have H' := Aside0.mk H
             clear H
             go_wp2
             go_roundg kj14
             case measure => have := HK1.out; have := HK2.out; have := HJ14.out; omega
             case rel => exact ⟨(x6_2), q_2, (wrap64 (x9_2 + 1)), rsz, H', ⟨by have := HK1.out; have := HK2.out; have := HJ14.out; omega⟩, ⟨by (with_reducible repeat (first | apply Kd.N_alloc | apply Kd.N_drewN | apply Kd.N_drew)); exact Kd.N_mono HO_6.out (fun _ hk => ⟨hk.1, ⟨hk.2.2.1, hk.2.2.2⟩⟩)⟩, ⟨blkz⟩, ⟨by (with_reducible repeat (first | apply TSet.alloc | apply TSet.drewN | apply TSet.drew)); exact BK242.out⟩, ⟨bel⟩⟩
            ·
             replace c24 := Bool.eq_false_iff.mpr c24
             subst c24
             rw [if_neg (show ¬ (false = true) by decide)] at H
             by_cases c25 : (x6_2.length : Int) = 300
             ·
              rw [if_pos c25] at H
              have c25b0 : ((x6_2.length : Int) == 300) = true := beq_iff_eq.mpr c25
              have c25b1 : ((x6_2.length : Int) != 300) = false := bne_eq_false_iff_eq.mpr c25
              clear c25
              simp only [Option.some.injEq, Prod.mk.injEq] at H
              obtain ⟨rfl, rfl⟩ := H
              go_wp2
              go_ret2
              exact ⟨_, ezz, by first | exact Kd.S_nil _ _ _ _ _ | exact Kd.N_nil _ _ _ _ _ | exact Kd.V_nil _ _ _ _ _ | exact Kd.Q_nil _ _ _ _ _ | exact Kd.R_nil _ _ _ _ _, bel⟩
             ·
              rw [if_neg c25] at H
              have c25b0 : ((x6_2.length : Int) == 300) = false := beq_eq_false_iff_ne.mpr c25
              have c25b1 : ((x6_2.length : Int) != 300) = true := bne_iff_ne.mpr c25
              replace H := Option.bind_eq_some_iff.mp H
              obtain ⟨t250, A260, H⟩ := H
              try dsimp only at H
              have A26 := Aside0.mk A260
              clear A260
              by_cases cq26 : ¬ (t250.size ≤ 10000 ∧ q_2.length < 10000)
              ·
               rw [if_neg cq26] at H; exact absurd H (by simp)
              replace cq26 := Decidable.not_not.1 cq26
              rw [if_pos cq26] at H
              have CQ26 := Aside0.mk cq26
              clear cq26
              obtain ⟨y251, hy251⟩ : ∃ y_ : List Int, y_ = (([] : List Int)) := ⟨_, rfl⟩
              replace H : (if 0 ≤ x8_1 then (if x8_1 < (x6_2.length : Int) then (if y251.length + ((rd_T87 x6_2 x8_1).f1).length < 17592186044416 then ((some (y251 ++ ((rd_T87 x6_2 x8_1).f1) : List Int)).bind fun y255 => (if y255.length < 17592186044416 then (if x6_2.length < 2932031007402 then (dropperref06_found.l1 kj14 (x6_2 ++ [(⟨t245, (y255 ++ [x9_2])⟩ : S87)]) (t250 :: q_2) x8_1 (wrap64 (x9_2 + 1)) a0_0 l0_1) else (none)) else (none))) else (none)) else (none)) else (none)) = some (r1, r2) := by first | (rw [hy251]; with_reducible exact H) | (have H2_ := (Option.bind_some _ _).symm.trans H; rw [hy251]; with_reducible exact H2_) | (have H2_ := (Option.bind_some _ _).symm.trans H; with_reducible exact H2_) | with_reducible exact H | (rw [hy251]; exact H) | exact H
              have Ny251 := Aside0.mk hy251
              clear hy251
              by_cases c27 : 0 ≤ x8_1
              ·
               rw [if_pos c27] at H
               have c27b0 : decide (0 ≤ x8_1) = true := decide_eq_true c27
               clear c27
               by_cases c28 : x8_1 < (x6_2.length : Int)
               ·
                rw [if_pos c28] at H
                have c28b0 : decide (x8_1 < (x6_2.length : Int)) = true := decide_eq_true c28
                clear c28
                by_cases c29 : y251.length + ((rd_T87 x6_2 x8_1).f1).length < 17592186044416
                ·
                 rw [if_pos c29] at H
                 have LMc29 := Aside0.mk c29
                 clear c29
                 obtain ⟨y255, hy255⟩ : ∃ y_ : List Int, y_ = (y251 ++ ((rd_T87 x6_2 x8_1).f1)) := ⟨_, rfl⟩
                 replace H : (if y255.length < 17592186044416 then (if x6_2.length < 2932031007402 then (dropperref06_found.l1 kj14 (x6_2 ++ [(⟨t245, (y255 ++ [x9_2])⟩ : S87)]) (t250 :: q_2) x8_1 (wrap64 (x9_2 + 1)) a0_0 l0_1) else (none)) else (none)) = some (r1, r2) := by first | (rw [hy255]; with_reducible exact H) | (have H2_ := (Option.bind_some _ _).symm.trans H; rw [hy255]; with_reducible exact H2_) | (have H2_ := (Option.bind_some _ _).symm.trans H; with_reducible exact H2_) | with_reducible exact H | (rw [hy255]; exact H) | exact H
                 have Ny255 := Aside0.mk hy255
                 clear hy255
                 by_cases c30 : y255.length < 17592186044416
                 ·
                  rw [if_pos c30] at H
                  have LMc30 := Aside0.mk c30
                  clear c30
                  obtain ⟨y258, hy258⟩ : ∃ y_ : List Int, y_ = (y255 ++ [x9_2]) := ⟨_, rfl⟩
                  replace H : (if x6_2.length < 2932031007402 then (dropperref06_found.l1 kj14 (x6_2 ++ [(⟨t245, y258⟩ : S87)]) (t250 :: q_2) x8_1 (wrap64 (x9_2 + 1)) a0_0 l0_1) else (none)) = some (r1, r2) := by first | (rw [hy258]; with_reducible exact H) | (have H2_ := (Option.bind_some _ _).symm.trans H; rw [hy258]; with_reducible exact H2_) | (have H2_ := (Option.bind_some _ _).symm.trans H; with_reducible exact H2_) | with_reducible exact H | (rw [hy258]; exact H) | exact H
                  have Ny258 := Aside0.mk hy258
                  clear hy258
                  by_cases c31 : x6_2.length < 2932031007402
                  ·
                   rw [if_pos c31] at H
                   have LMc31 := Aside0.mk c31
                   clear c31
                   obtain ⟨y261, hy261⟩ : ∃ y_ : List (S87), y_ = (x6_2 ++ [(⟨t245, y258⟩ : S87)]) := ⟨_, rfl⟩
                   replace H : (dropperref06_found.l1 kj14 y261 (t250 :: q_2) x8_1 (wrap64 (x9_2 + 1)) a0_0 l0_1) = some (r1, r2) := by first | (rw [hy261]; with_reducible exact H) | (have H2_ := (Option.bind_some _ _).symm.trans H; rw [hy261]; with_reducible exact H2_) | (have H2_ := (Option.bind_some _ _).symm.trans H; with_reducible exact H2_) | with_reducible exact H | (rw [hy261]; exact H) | exact H
                   have Ny261 := Aside0.mk hy261
                   clear hy261
                   have H' := Aside0.mk H
                   clear H
                   obtain ⟨Ao32, co32, eo32⟩ := Kd.R_slice HO_10.out
                   subst eo32
                   go_wp2_with (first | ((with_reducible refine gate_callee (f := 98) rfl ?_); refine goesL_ (some 59) rfl rfl Try.func98 (by kernel_rfl) rfl #[.slice Ao32 t245.length co32] rfl mapz ?_; (with_reducible refine (dropperref06_text.calls kj14 _ _ t245 t250 _ ?side1 ?side2 A26.out).mono ?_); (case side1 => repeat (first | exact (Kd.R_reads' HO_10.out).2.2 | (with_reducible refine Kd.C_alloc ?_ _) | (with_reducible refine Kd.C_drewN ?_ _) | (with_reducible refine Kd.C_drew ?_))); (case side2 => exact (Kd.R_reads' HO_10.out).2.1); rintro e w' ⟨rfl, ⟨nd, rfl⟩⟩; refine ⟨_, rfl, ?_⟩) | (at_mapUpdate; refine tset_store (t := 113) rfl (.tmp 57) (.tmp 59) (.const (.bool true)) (.inl rfl) rfl t250 rfl rfl (by (with_reducible repeat (first | apply TSet.alloc | apply TSet.drewN | apply TSet.drew)); exact BK242.out) Try.underlying9 Try.underlying113 Try.underlying4 (Nat.lt_trans CQ26.out.2 (by decide)) (Nat.le_trans CQ26.out.1 (by decide)) ?_; intro w34 hm hg; have n0_ := Aside0.mk (Kd.N_grown (w1 := w34) (by (with_reducible repeat (first | apply Kd.N_alloc | apply Kd.N_drewN | apply Kd.N_drew)); exact HO_6.out) hg (fun k_ hk e_ => by injection e_ with e_; exact hk.2.2.2 e_)); have n1_ := Aside0.mk (Kd.R_mono (Kd.R_grown (w1 := w34) (TSet.away (by (with_reducible repeat (first | apply TSet.alloc | apply TSet.drewN | apply TSet.drew)); exact BK242.out) (by (with_reducible repeat (first | apply Kd.R_alloc | apply Kd.R_drewN | apply Kd.R_drew)); exact HO_10.out)) hg (fun k_ hk e_ => by injection e_ with e_; exact hk.2 e_)) (fun k_ hk => hk.1)); have n2_ := Aside0.mk (blk_grown (g := gb237) (o := .cells #[.int .i64 a0_0, .slice (some ad243) l0_1.length c0_1] 24 (0, 0)) blkz hg (TSet.ne_box BK242.out BK237.out)); have n3_ := Aside0.mk (Below.grown (show Below w.heap.size w _ from bel) hg (below_size bel) (fun j_ hj_ => by injection hj_ with hj_; rw [← hj_]; exact GW242.out)); clear HO_6 HO_10 BK237 HB BK242 HR244_0 HR244_1; have HO_6 := n0_; have HO_10 := n1_; have BK237 := n2_; have HB := n3_; have BK242 := Aside0.mk hm; clear n0_ n1_ n2_ n3_ hm hg) | ((with_reducible refine gate_dst (N := 62) rfl ?_); refine Kd.R_lit (Kd.int .i64) _ 3 ?hg (N := 62) ?hd (xs := ([] : List Int)) (inner := []) (ok := fun _ => True) (okp := fun _ => True) ?hr ?hp (fun _ hk => hk) trivial (Below.refl _ _) (Nat.le_refl _) (by simp) ?_; (case hd => rfl); (case hg => rfl); (case hr => first | (go_simp; done) | (go_simp; rfl)); (case hp => exact (Reps.none _ _)); intro v252 w35 ho36 hb hg_ hnew_; clear hg_ hnew_; (first | rw [← Ny251.out] at ho36 | (simp only [Int.reduceToNat] at ho36; rw [← Ny251.out] at ho36)); have HO253 := Aside0.mk (Kd.R_lower (Kd.R_new' (Kd.R_newM (M := fun k_ => (w.heap.size ≤ k_)) ho36 (below_size bel) (fun k_ h_ => h_)) (Kd.R_lt (ownx HO_10))) (below_size bel)); replace HO_6 := Aside0.mk (Kd.N_elder' (by (with_reducible repeat (first | apply Kd.N_alloc | apply Kd.N_drewN | apply Kd.N_drew)); exact HO_6.out) (Kd.R_base ho36) hb); replace HO_10 := Aside0.mk (Kd.R_elder' (ownx HO_10) (Kd.R_base ho36) hb); replace BK237 := Aside0.mk (blk_below (g := gb237) blkz hb); replace BK242 := Aside0.mk (TSet.below (by (with_reducible repeat (first | apply TSet.alloc | apply TSet.drewN | apply TSet.drew)); exact BK242.out) hb); replace HB := Aside0.mk (below_step bel hb); clear hb ho36; have p254 : 0 ≤ (x8_1 : Int) := of_decide_eq_true asz; have q254 : x8_1 < (x6_2.length : Int) := of_decide_eq_true asz; obtain ⟨ad254, A254_0, c254_0, A254_1, c254_1, e254, hx254_0, hx254_1, hl254_0, hi254_0, hl254_1, hi254_1⟩ := at_T87 (Kd.N_reads' HO_6.out).2.2 x8_1 p254 q254; obtain rfl : ad244 = ad254 := (by injection e254); obtain ⟨ce254, hce254, hMe254, hcc254⟩ := Kd.N_get HO_6.out z87 x8_1 p254 (by first | exact q254 | exact of_decide_eq_true asz | (have e_ := (Kd.N_reads' HO_6.out).1; omega)); obtain ⟨ua254_0, uc254_0, ua254_1, uc254_1, rfl, ul254_0, ge254_0, ul254_1, ge254_1⟩ := k87_openF hMe254; have hv254_0 := hcc254 0 _ rfl; rw [Nat.add_zero] at hv254_0; replace hv254_0 := Option.some.inj (hv254_0.symm.trans hx254_0); injection hv254_0 with hva_ hvn_ hvc_; rw [hva_] at ge254_0; rw [hvc_] at ul254_0; have HL254_0 := Aside0.mk (show Kd.V (Kd.int .i64) 3 _ w.heap.size _ _ ((rd_T87 x6_2 x8_1).f0) from Kd.V_mk ul254_0 ge254_0); clear hva_ hvn_ hvc_ ge254_0 ul254_0; have hv254_1 := hcc254 1 _ rfl; rw [add_field _ _ 1 (by omega)] at hv254_1; replace hv254_1 := Option.some.inj (hv254_1.symm.trans hx254_1); injection hv254_1 with hva_ hvn_ hvc_; rw [hva_] at ge254_1; rw [hvc_] at ul254_1; have HL254_1 := Aside0.mk (show Kd.V (Kd.int .i64) 3 _ w.heap.size _ _ ((rd_T87 x6_2 x8_1).f1) from Kd.V_mk ul254_1 ge254_1); clear hva_ hvn_ hvc_ ge254_1 ul254_1; clear hcc254 hce254; have HR254_0 := Aside0.mk hi254_0; have HC254_0 := Aside0.mk hl254_0; clear hi254_0 hl254_0; have HR254_1 := Aside0.mk hi254_1; have HC254_1 := Aside0.mk hl254_1; clear hi254_1 hl254_1; replace p254 := eq_true p254; replace q254 := eq_true q254) | ((with_reducible refine gate_builtin (b := .append) (xs := #[.tmp 62, .tmp 67]) rfl ?_); at_builtin; refine Kd.R_append_rows (Kd.int .i64) (w0 := w) w.heap.size rfl (.tmp 62) (.tmp 67) 25 3 (.int .i64 0) 8 rfl Try.underlying25 info3 rfl (by decide) (by omega) v252 y251 ((rd_T87 x6_2 x8_1).f1) _ _ _ (fun k_ => (w.heap.size ≤ k_) ∧ some k_ ≠ (.slice Ao32 t245.length co32 : Value).ownBlock) (fun _ => False) rfl rfl ?aO ?aR (fun _ _ h => h) (fun _ h => h.elim) ?aF ?aB ?aS ?aL ?_; (case aR => repeat (first | exact (by repeat (first | (with_reducible exact HR254_1.out) | (with_reducible refine Kd.C_alloc ?_ _) | (with_reducible refine Kd.C_drewN ?_ _) | (with_reducible refine Kd.C_drew ?_) | exact HR254_1.out)) | (with_reducible refine Kd.C_alloc ?_ _) | (with_reducible refine Kd.C_drewN ?_ _) | (with_reducible refine Kd.C_drew ?_))); (case aB => exact bel); (case aF => exact (fun k_ hk => ⟨(Nat.le_trans (below_size bel) hk), Kd.fresh' (Kd.R_lt (ownx HO_10)) k_ hk⟩)); (case aO => exact (by (with_reducible repeat (first | apply Kd.R_alloc | apply Kd.R_drewN | apply Kd.R_drew)); exact Kd.R_mono HO253.out (fun _ hk => ⟨hk.1.1, hk.2⟩))); (case aS => exact (below_size bel)); (case aL => have := LMc29.out; omega); intro v256 w37 ho hb hg hat; rw [← Ny255.out] at ho; have n0_ := Aside0.mk (Kd.N_afterv (ok := (fun k_ => (P1_ k_ ∨ w.heap.size ≤ k_) ∧ some k_ ≠ (.slice Ao32 t245.length co32 : Value).ownBlock ∧ k_ ≠ gb237 ∧ k_ ≠ gb242)) (by (with_reducible repeat (first | apply Kd.N_alloc | apply Kd.N_drewN | apply Kd.N_drew)); exact HO_6.out) hg hat); have n1_ := Aside0.mk (Kd.R_after (ok := (fun k_ => (w.heap.size ≤ k_))) (ownx HO_10) hg hat); have n2_ := Aside0.mk (blk_grown (g := gb237) (o := .cells #[.int .i64 a0_0, .slice (some ad243) l0_1.length c0_1] 24 (0, 0)) blkz hg (Kd.R_ne HO253.out BK237.out (by decide))); have n3_ := Aside0.mk (TSet.grown (by (with_reducible repeat (first | apply TSet.alloc | apply TSet.drewN | apply TSet.drew)); exact BK242.out) hg (TSet.ne_R BK242.out HO253.out)); have n4_ := Aside0.mk (Kd.V_afterv (ok := (fun k_ => (P1_ k_ ∨ w.heap.size ≤ k_) ∧ some k_ ≠ (.slice (some ad244) x6_2.length co19 : Value).ownBlock ∧ some k_ ≠ (.slice Ao32 t245.length co32 : Value).ownBlock ∧ k_ ≠ gb237 ∧ k_ ≠ gb242)) (by (with_reducible repeat (first | apply Kd.V_alloc | apply Kd.V_drewN | apply Kd.V_drew)); exact Kd.V_mono HL254_0.out (fun _ hk => ⟨⟨hk.1.1.1, ⟨hk.2, ⟨hk.1.1.2.1, ⟨hk.1.1.2.2.1, hk.1.1.2.2.2⟩⟩⟩⟩, hk.1.2⟩)) hg hat); have n5_ := Aside0.mk (Kd.V_afterv (ok := (fun k_ => (P1_ k_ ∨ w.heap.size ≤ k_) ∧ some k_ ≠ (.slice (some ad244) x6_2.length co19 : Value).ownBlock ∧ some k_ ≠ (.slice Ao32 t245.length co32 : Value).ownBlock ∧ k_ ≠ gb237 ∧ k_ ≠ gb242)) (by (with_reducible repeat (first | apply Kd.V_alloc | apply Kd.V_drewN | apply Kd.V_drew)); exact Kd.V_mono HL254_1.out (fun _ hk => ⟨⟨hk.1.1.1, ⟨hk.2, ⟨hk.1.1.2.1, ⟨hk.1.1.2.2.1, hk.1.1.2.2.2⟩⟩⟩⟩, hk.1.2⟩)) hg hat); have n6_ := Aside0.mk (hb); have n7_ := Aside0.mk (ho); clear HO_6; clear HO_10; clear BK237; clear BK242; clear HL254_0; clear HL254_1; clear HB; clear HO253; have HO_6 := n0_; have HO_10 := n1_; have BK237 := n2_; have BK242 := n3_; have HL254_0 := n4_; have HL254_1 := n5_; have HB := n6_; have HO257 := n7_; clear n0_ n1_ n2_ n3_ n4_ n5_ n6_ n7_; clear ho hb hg hat) | ((with_reducible refine gate_builtin (b := .append) (xs := #[.tmp 68, .tmp 70]) rfl ?_); at_builtin; refine Kd.R_append (Kd.int .i64) (w0 := w) w.heap.size rfl (.tmp 68) (.tmp 70) 25 3 (.int .i64 0) 8 rfl Try.underlying25 info3 rfl (by decide) (by omega) v256 y255 x9_2 [.int .i64 x9_2] (fun k_ => (w.heap.size ≤ k_) ∧ some k_ ≠ (.slice Ao32 t245.length co32 : Value).ownBlock) (fun _ => False) rfl rfl ?aP (fun _ hk => hk.elim) ?aF ?aO ?aB ?aS ?aL ?_; (case aP => exact rfl); (case aB => exact bel); (case aF => exact (fun k_ hk => ⟨(Nat.le_trans (below_size bel) hk), Kd.fresh' (Kd.R_lt (ownx HO_10)) k_ hk⟩)); (case aO => exact (ownx HO257)); (case aS => exact (below_size bel)); (case aL => have := LMc30.out; omega); intro v259 w38 ho hb hg hat; rw [← Ny258.out] at ho; have n0_ := Aside0.mk (Kd.N_afterv (ok := (fun k_ => (P1_ k_ ∨ w.heap.size ≤ k_) ∧ some k_ ≠ (.slice Ao32 t245.length co32 : Value).ownBlock ∧ k_ ≠ gb237 ∧ k_ ≠ gb242)) (by (with_reducible repeat (first | apply Kd.N_alloc | apply Kd.N_drewN | apply Kd.N_drew)); exact HO_6.out) hg hat); have n1_ := Aside0.mk (Kd.R_after (ok := (fun k_ => (w.heap.size ≤ k_))) (ownx HO_10) hg hat); have n2_ := Aside0.mk (blk_grown (g := gb237) (o := .cells #[.int .i64 a0_0, .slice (some ad243) l0_1.length c0_1] 24 (0, 0)) blkz hg (Kd.R_ne HO257.out BK237.out (by decide))); have n3_ := Aside0.mk (TSet.grown (by (with_reducible repeat (first | apply TSet.alloc | apply TSet.drewN | apply TSet.drew)); exact BK242.out) hg (TSet.ne_R BK242.out HO257.out)); have n4_ := Aside0.mk (Kd.V_afterv (ok := (fun k_ => (P1_ k_ ∨ w.heap.size ≤ k_) ∧ some k_ ≠ (.slice (some ad244) x6_2.length co19 : Value).ownBlock ∧ some k_ ≠ (.slice Ao32 t245.length co32 : Value).ownBlock ∧ k_ ≠ gb237 ∧ k_ ≠ gb242)) (by (with_reducible repeat (first | apply Kd.V_alloc | apply Kd.V_drewN | apply Kd.V_drew)); exact HL254_0.out) hg hat); have n5_ := Aside0.mk (Kd.V_afterv (ok := (fun k_ => (P1_ k_ ∨ w.heap.size ≤ k_) ∧ some k_ ≠ (.slice (some ad244) x6_2.length co19 : Value).ownBlock ∧ some k_ ≠ (.slice Ao32 t245.length co32 : Value).ownBlock ∧ k_ ≠ gb237 ∧ k_ ≠ gb242)) (by (with_reducible repeat (first | apply Kd.V_alloc | apply Kd.V_drewN | apply Kd.V_drew)); exact HL254_1.out) hg hat); have n6_ := Aside0.mk (hb); have n7_ := Aside0.mk (ho); clear HO_6; clear HO_10; clear BK237; clear BK242; clear HL254_0; clear HL254_1; clear HB; clear HO257; have HO_6 := n0_; have HO_10 := n1_; have BK237 := n2_; have BK242 := n3_; have HL254_0 := n4_; have HL254_1 := n5_; have HB := n6_; have HO260 := n7_; clear n0_ n1_ n2_ n3_ n4_ n5_ n6_ n7_; clear ho hb hg hat; obtain ⟨Ao39, co39, eo39⟩ := Kd.R_slice HO260.out; subst eo39) | ((with_reducible refine gate_builtin (b := .append) (xs := #[.tmp 60, .tmp 73]) rfl ?_); at_builtin; refine Kd.N_append k87 (w0 := w) w.heap.size rfl (.tmp 60) (.tmp 73) 83 87 (.agg #[(.slice none 0 0), (.slice none 0 0)]) 48 rfl Try.underlying83 info87 rfl (by decide) (by omega) (.slice (some ad244) x6_2.length co19) x6_2 (⟨t245, y258⟩ : S87) [.slice Ao32 t245.length co32, .slice Ao39 y258.length co39] (fun k_ => (P1_ k_ ∨ w.heap.size ≤ k_) ∧ k_ ≠ gb237 ∧ k_ ≠ gb242) (fun k_ => ((fun k_ => (P1_ k_ ∨ w.heap.size ≤ k_) ∧ k_ ≠ gb237 ∧ k_ ≠ gb242)) k_ ∧ some k_ ≠ (.slice (some ad244) x6_2.length co19 : Value).ownBlock) rfl rfl ?aP (fun _ hk => hk) ?aF ?aO ?aB ?aS ?aL ?_; (case aP => exact (k87_mkF _ _ (⟨t245, y258⟩ : S87) (Kd.R_reads' (Kd.R_mono (ok' := (fun k_ => ((fun k_ => (P1_ k_ ∨ w.heap.size ≤ k_) ∧ k_ ≠ gb237 ∧ k_ ≠ gb242)) k_ ∧ some k_ ≠ (.slice (some ad244) x6_2.length co19 : Value).ownBlock)) (TSet.away BK242.out (Kd.R_types (Kd.R_apart' (HO_10.out) (Kd.N_typed HO_6.out) (by decide)) BK237.out (by decide))) (fun k_ hk => ⟨⟨(.inr (hk.1.1.1.1)), ⟨hk.1.2, hk.2⟩⟩, hk.1.1.2⟩))).2.1 (Kd.R_F (Kd.R_mono (ok' := (fun k_ => ((fun k_ => (P1_ k_ ∨ w.heap.size ≤ k_) ∧ k_ ≠ gb237 ∧ k_ ≠ gb242)) k_ ∧ some k_ ≠ (.slice (some ad244) x6_2.length co19 : Value).ownBlock)) (TSet.away BK242.out (Kd.R_types (Kd.R_apart' (HO_10.out) (Kd.N_typed HO_6.out) (by decide)) BK237.out (by decide))) (fun k_ hk => ⟨⟨(.inr (hk.1.1.1.1)), ⟨hk.1.2, hk.2⟩⟩, hk.1.1.2⟩))) (Kd.R_reads' (Kd.R_mono (ok' := (fun k_ => ((fun k_ => (P1_ k_ ∨ w.heap.size ≤ k_) ∧ k_ ≠ gb237 ∧ k_ ≠ gb242)) k_ ∧ some k_ ≠ (.slice (some ad244) x6_2.length co19 : Value).ownBlock)) (TSet.away BK242.out (Kd.R_types (Kd.R_apart' (HO260.out) (Kd.N_typed HO_6.out) (by decide)) BK237.out (by decide))) (fun k_ hk => ⟨⟨(.inr (hk.1.1.1.1)), ⟨hk.1.2, hk.2⟩⟩, hk.1.1.2⟩))).2.1 (Kd.R_F (Kd.R_mono (ok' := (fun k_ => ((fun k_ => (P1_ k_ ∨ w.heap.size ≤ k_) ∧ k_ ≠ gb237 ∧ k_ ≠ gb242)) k_ ∧ some k_ ≠ (.slice (some ad244) x6_2.length co19 : Value).ownBlock)) (TSet.away BK242.out (Kd.R_types (Kd.R_apart' (HO260.out) (Kd.N_typed HO_6.out) (by decide)) BK237.out (by decide))) (fun k_ hk => ⟨⟨(.inr (hk.1.1.1.1)), ⟨hk.1.2, hk.2⟩⟩, hk.1.1.2⟩))))); (case aB => exact bel); (case aF => exact (fun k_ hk => ⟨(.inr (Nat.le_trans (below_size bel) hk)), Kd.freshB (g := gb237) (o := .cells #[.int .i64 a0_0, .slice (some ad243) l0_1.length c0_1] 24 (0, 0)) blkz k_ hk, TSet.fresh (by (with_reducible repeat (first | apply TSet.alloc | apply TSet.drewN | apply TSet.drew)); exact BK242.out) k_ hk⟩)); (case aO => exact (by (with_reducible repeat (first | apply Kd.N_alloc | apply Kd.N_drewN | apply Kd.N_drew)); exact Kd.N_mono HO_6.out (fun _ hk => ⟨hk.1.1, ⟨hk.1.2.2.1, hk.1.2.2.2⟩⟩))); (case aS => exact (below_size bel)); (case aL => have := LMc31.out; omega); intro v262 w40 ho hb hg hat; rw [← Ny261.out] at ho; have n0_ := Aside0.mk (blk_grown (g := gb237) (o := .cells #[.int .i64 a0_0, .slice (some ad243) l0_1.length c0_1] 24 (0, 0)) blkz hg (Kd.N_ne HO_6.out BK237.out (by decide))); have n1_ := Aside0.mk (TSet.grown (by (with_reducible repeat (first | apply TSet.alloc | apply TSet.drewN | apply TSet.drew)); exact BK242.out) hg (TSet.ne_N BK242.out HO_6.out)); have n2_ := Aside0.mk (Kd.V_afterv (ok := (fun k_ => (P1_ k_ ∨ w.heap.size ≤ k_) ∧ some k_ ≠ (.slice Ao32 t245.length co32 : Value).ownBlock ∧ some k_ ≠ (.slice Ao39 y258.length co39 : Value).ownBlock ∧ k_ ≠ gb237 ∧ k_ ≠ gb242)) (by (with_reducible repeat (first | apply Kd.V_alloc | apply Kd.V_drewN | apply Kd.V_drew)); exact Kd.V_mono HL254_0.out (fun _ hk => ⟨⟨hk.1.1, ⟨hk.1.2.2.1, ⟨hk.2, ⟨hk.1.2.2.2.1, hk.1.2.2.2.2⟩⟩⟩⟩, hk.1.2.1⟩)) hg hat); have n3_ := Aside0.mk (Kd.V_afterv (ok := (fun k_ => (P1_ k_ ∨ w.heap.size ≤ k_) ∧ some k_ ≠ (.slice Ao32 t245.length co32 : Value).ownBlock ∧ some k_ ≠ (.slice Ao39 y258.length co39 : Value).ownBlock ∧ k_ ≠ gb237 ∧ k_ ≠ gb242)) (by (with_reducible repeat (first | apply Kd.V_alloc | apply Kd.V_drewN | apply Kd.V_drew)); exact Kd.V_mono HL254_1.out (fun _ hk => ⟨⟨hk.1.1, ⟨hk.1.2.2.1, ⟨hk.2, ⟨hk.1.2.2.2.1, hk.1.2.2.2.2⟩⟩⟩⟩, hk.1.2.1⟩)) hg hat); have n4_ := Aside0.mk (hb); have n5_ := Aside0.mk (ho); clear BK237; clear BK242; clear HL254_0; clear HL254_1; clear HB; clear HO_6; clear HO260; clear HO_10; have BK237 := n0_; have BK242 := n1_; have HL254_0 := n2_; have HL254_1 := n3_; have HB := n4_; have HO263 := n5_; clear n0_ n1_ n2_ n3_ n4_ n5_; clear ho hb hg hat))
                   go_roundg kj14
                   case measure => have := HK1.out; have := HK2.out; have := HJ14.out; omega
                   case rel => exact ⟨(y261), t250 :: q_2, (wrap64 (x9_2 + 1)), rsz, H', ⟨by have := HK1.out; have := HK2.out; have := HJ14.out; omega⟩, ⟨by (with_reducible repeat (first | apply Kd.N_alloc | apply Kd.N_drewN | apply Kd.N_drew)); exact HO263.out⟩, ⟨blkz⟩, ⟨by (with_reducible repeat (first | apply TSet.alloc | apply TSet.drewN | apply TSet.drew)); exact BK242.out⟩, ⟨bel⟩⟩
                  ·
                   rw [if_neg c31] at H
                   exact absurd H (by simp)
                 ·
                  rw [if_neg c30] at H
                  exact absurd H (by simp)
                ·
                 rw [if_neg c29] at H
                 exact absurd H (by simp)
               ·
                rw [if_neg c28] at H
                exact absurd H (by simp)
              ·
               rw [if_neg c27] at H
               exact absurd H (by simp)
         ·
          rw [if_neg c13] at H
          exact absurd H (by simp)
        ·
         rw [if_neg c12] at H
         exact absurd H (by simp)
       ·
        rw [if_neg c11] at H
        exact absurd H (by simp)
      ·
       rw [if_neg c10] at H
       have c10b0 : decide (x9_2 < (l0_1.length : Int)) = false := decide_eq_false c10
       clear c10
       have H' := Aside0.mk H
       clear H
       have hnb41 := NB237_242.out
       have hnc41 := NB242_237.out
       obtain ⟨hcz42_0, hcz42_1⟩ := bc2 BK237.out
       obtain ⟨hfz42_0, hfz42_1⟩ := bf2 BK237.out
       go_wp2
       go_roundg k2
       case measure => have := HK1.out; have := HK2.out; omega
       case rel => exact ⟨(x6_2), q_2, (wrap64 (x8_1 + 1)), rsz, H', ⟨by have := HK1.out; have := HK2.out; omega⟩, ⟨by (with_reducible repeat (first | apply Kd.N_alloc | apply Kd.N_drewN | apply Kd.N_drew)); exact HO_6.out⟩, ⟨blkz⟩, ⟨by (with_reducible repeat (first | apply TSet.alloc | apply TSet.drewN | apply TSet.drew)); exact BK242.out⟩, ⟨bel⟩⟩
   ·
    rw [if_neg c8] at H
    have c8b0 : decide (x8_1 < (x6_1.length : Int)) = false := decide_eq_false c8
    clear c8
    simp only [Option.some.injEq, Prod.mk.injEq] at H
    obtain ⟨rfl, rfl⟩ := H
    obtain ⟨Ao43, co43, eo43⟩ := Kd.N_slice HO_6.out
    subst eo43
    go_wp2
    go_ret2
    exact ⟨_, ezz, by (with_reducible repeat (first | apply Kd.N_alloc | apply Kd.N_drewN | apply Kd.N_drew)); exact Kd.N_mono HO_6.out (fun _ hk => hk.1), bel⟩

/-! ### dropperref06_Reach: function 33 -/
mutual
def dropperref06_Reach.l0 : Nat → List (S87) → List (List Int) → Int → Option ((List (List Int)) × Int)
 | 0, _, _, _ => none
 | k + 1, x7, x9, x10 => if x10 < (x7.length : Int) then (dropperref06_Reach.l1 k x7 x9 x10 (x9.length : Int)) else (some (x9, 0))
def dropperref06_Reach.l1 : Nat → List (S87) → List (List Int) → Int → Int → Option ((List (List Int)) × Int)
 | 0, _, _, _, _ => none
 | k + 1, x7, x9, x10, x11 => if x11 > 0 then (if 0 ≤ x10 then (if x10 < (x7.length : Int) then (if 0 ≤ (wrap64 (x11 - 1)) then (if (wrap64 (x11 - 1)) < (x9.length : Int) then ((dropperref06_less.f k ((rd_T87 x7 x10).f0) (rd_L1 x9 (wrap64 (x11 - 1)))).bind fun t250 => (if t250 = true then (dropperref06_Reach.l1 k x7 x9 x10 (wrap64 (x11 - 1))) else (if 0 ≤ x11 ∧ x11 ≤ (x9.length : Int) ∧ x9.length < 100000 then (dropperref06_Reach.l0 k x7 (x9.take (x11).toNat ++ (rd_T87 x7 x10).f0 :: x9.drop (x11).toNat) (wrap64 (x10 + 1))) else (none)))) else (none)) else (none)) else (none)) else (none)) else (if 0 ≤ x10 then (if x10 < (x7.length : Int) then (if 0 ≤ x11 ∧ x11 ≤ (x9.length : Int) ∧ x9.length < 100000 then (dropperref06_Reach.l0 k x7 (x9.take (x11).toNat ++ (rd_T87 x7 x10).f0 :: x9.drop (x11).toNat) (wrap64 (x10 + 1))) else (none)) else (none)) else (none))
end
def dropperref06_Reach.f (k : Nat) (a0_0 : Int) (l0_1 : List (S64)) (l1 : List Int) : Option ((List (List Int)) × Int) := (dropperref06_asked.f k a0_0 l0_1 (([l1] : List (List Int)))).bind fun t243 => (if t243 = 0 then ((dropperref06_found.f k a0_0 l0_1 l1).bind fun bt244 => (if bt244.2 = true then (dropperref06_Reach.l0 k bt244.1 ([] : List (List Int)) 0) else (some (([] : List (List Int)), 4)))) else (some (([] : List (List Int)), t243)))
set_option maxHeartbeats 8000000 in
set_option maxRecDepth 100000 in
theorem dropperref06_Reach.calls (k : Nat) (a0_0 : Int) (A0_1 : Option Addr) (c0_1 : Nat) (l0_1 : List (S64)) (P1_ : Nat → Prop) (A1 : Option Addr) (c1 : Nat) (l1 : List Int) (r1 : List (List Int)) (r2 : Int) (w : World) (hr0_1 : Kd.C k64 w A0_1 l0_1.length l0_1) (hc0_1 : l0_1.length ≤ c0_1) (hs1 : Kd.V (Kd.int .i64) 3 w w.heap.size (fun k_ => P1_ k_) (.slice A1 l1.length c1) l1) (h : dropperref06_Reach.f k a0_0 l0_1 l1 = some (r1, r2)) :
  Calls Try.prog 33 #[.agg #[.int .i64 a0_0, .slice A0_1 l0_1.length c0_1], .slice A1 l1.length c1] w fun e w' => ∃ v0_ : Value, e = .returned (.tuple #[v0_, .int .i64 r2]) ∧ Kd.N (Kd.slice 3 (Kd.int .i64)) 25 w' w.heap.size (fun k_ => (P1_ k_ ∨ w.heap.size ≤ k_)) v0_ r1 ∧ Below w.heap.size w w' := by
 have hu24 := Try.underlying24
 have HR0_1 := Aside0.mk hr0_1
 have HC0_1 := Aside0.mk hc0_1
 clear hr0_1 hc0_1
 have HO1 := Aside0.mk (show Kd.V (Kd.int .i64) 3 w w.heap.size (fun k_ => (P1_ k_ ∨ w.heap.size ≤ k_)) (.slice A1 l1.length c1) l1 from Kd.V_mono hs1 (fun k_ hk => .inl hk))
 have HB := Aside0.mk (Below.refl w.heap.size w)
 have H : ((dropperref06_asked.f k a0_0 l0_1 (([l1] : List (List Int)))).bind fun t243 => (if t243 = 0 then ((dropperref06_found.f k a0_0 l0_1 l1).bind fun bt244 => (if bt244.2 = true then (dropperref06_Reach.l0 k bt244.1 ([] : List (List Int)) 0) else (some (([] : List (List Int)), 4)))) else (some (([] : List (List Int)), t243)))) = some (r1, r2) := h
 clear h
 obtain ⟨y240, hy240⟩ : ∃ y_ : List (List Int), y_ = (([l1] : List (List Int))) := ⟨_, rfl⟩
 replace H : ((dropperref06_asked.f k a0_0 l0_1 y240).bind fun t243 => (if t243 = 0 then ((dropperref06_found.f k a0_0 l0_1 l1).bind fun bt244 => (if bt244.2 = true then (dropperref06_Reach.l0 k bt244.1 ([] : List (List Int)) 0) else (some (([] : List (List Int)), 4)))) else (some (([] : List (List Int)), t243)))) = some (r1, r2) := by first | (rw [hy240]; with_reducible exact H) | (have H2_ := (Option.bind_some _ _).symm.trans H; rw [hy240]; with_reducible exact H2_) | (have H2_ := (Option.bind_some _ _).symm.trans H; with_reducible exact H2_) | with_reducible exact H | (rw [hy240]; exact H) | exact H
 have Ny240 := Aside0.mk hy240
 clear hy240
 replace H := Option.bind_eq_some_iff.mp H
 obtain ⟨t243, A30, H⟩ := H
 try dsimp only at H
 have A3 := Aside0.mk A30
 clear A30
 by_cases c4 : t243 = 0
 ·
  rw [if_pos c4] at H
  have c4b0 : (t243 == 0) = true := beq_iff_eq.mpr c4
  have c4b1 : (t243 != 0) = false := bne_eq_false_iff_eq.mpr c4
  clear c4
  replace H := Option.bind_eq_some_iff.mp H
  obtain ⟨⟨t244, t247⟩, A50, H⟩ := H
  try dsimp only at H
  have A5 := Aside0.mk A50
  clear A50
  by_cases c6 : t247 = true
  ·
   subst c6
   rw [if_pos rfl] at H
   have H' := Aside0.mk H
   clear H
   go_enter Try.func33, Try.ntmps33
   go_wp2_with (first | ((with_reducible refine gate_dst (N := 2) rfl ?_); refine box_event ?hg (N := 2) ?hd (cs := #[.int .i64 a0_0, .slice A0_1 l0_1.length c0_1]) (t := 24) ?hr ?_; (case hd => rfl); (case hg => rfl); (case hr => first | (go_simp; done) | (go_simp; rfl)); intro gb239 hg w7 hbox hb; have BK239 := Aside0.mk (hbox); have GW239 := bsz (w := w) hg; have GE239 := GW239; replace HO1 := Aside0.mk (Kd.V_below (Kd.V_elderB (by (with_reducible repeat (first | apply Kd.V_alloc | apply Kd.V_drewN | apply Kd.V_drew)); exact HO1.out) gb239 (Nat.le_of_eq hg.symm)) hb); replace HB := Aside0.mk (below_step bel hb); clear hb hbox hg; obtain ⟨hcz8_0, hcz8_1⟩ := bc2 BK239.out) | ((with_reducible refine gate_dst (N := 14) rfl ?_); refine Kd.N_lit (Kd.slice 3 (Kd.int .i64)) _ 25 ?hg (N' := 14) ?hd (xs := ([l1] : List (List Int))) (inner := [.slice A1 l1.length c1]) (ok := (fun k_ => (P1_ k_ ∨ w.heap.size ≤ k_) ∧ k_ ≠ gb239)) (okp := (fun k_ => (P1_ k_ ∨ w.heap.size ≤ k_) ∧ k_ ≠ gb239)) ?hr ?hp (fun _ hk => hk) ((show ∀ k_, w7.heap.size ≤ k_ → (fun k_ => (P1_ k_ ∨ w.heap.size ≤ k_) ∧ k_ ≠ gb239) k_ from fun k_ hk => ⟨(.inr (Nat.le_trans (below_size bel) hk)), Kd.freshB (g := gb239) (o := .cells #[.int .i64 a0_0, .slice A0_1 l0_1.length c0_1] 24 (0, 0)) blkz k_ hk⟩) _ (Nat.le_refl _)) (Below.refl _ _) (Nat.le_refl _) (by simp) ?_; (case hd => rfl); (case hg => rfl); (case hr => first | (go_simp; done) | (go_simp; rfl)); (case hp => exact (Reps.one (show Kd.FK (Kd.slice 3 (Kd.int .i64)) _ _ l1 [.slice A1 l1.length c1] from (Kd.FK_slice_mk (Kd.V_reads' (Kd.V_mono (ok' := (fun k_ => (P1_ k_ ∨ w.heap.size ≤ k_) ∧ k_ ≠ gb239)) (HO1.out) (fun k_ hk => ⟨hk.1, hk.2⟩))).2.1 (Kd.V_F (Kd.V_mono (ok' := (fun k_ => (P1_ k_ ∨ w.heap.size ≤ k_) ∧ k_ ≠ gb239)) (HO1.out) (fun k_ hk => ⟨hk.1, hk.2⟩))))) (Reps.none _ _))); intro v241 w9 ho10 hb hg_ hnew_; clear hg_ hnew_; (first | rw [← Ny240.out] at ho10 | (simp only [Int.reduceToNat] at ho10; rw [← Ny240.out] at ho10)); have HO242 := Aside0.mk (Kd.N_lower ho10 (below_size bel)); replace HO1 := Aside0.mk (Kd.V_elder' (by (with_reducible repeat (first | apply Kd.V_alloc | apply Kd.V_drewN | apply Kd.V_drew)); exact HO1.out) (Kd.N_base ho10) hb); replace BK239 := Aside0.mk (blk_below (g := gb239) blkz hb); replace HB := Aside0.mk (below_step bel hb); clear hb ho10; obtain ⟨Ao11, co11, eo11⟩ := Kd.N_slice HO242.out; subst eo11) | (go_at_call 72; (with_reducible refine (dropperref06_asked.calls k a0_0 _ _ l0_1 _ _ y240 t243 _ (cbz HR0_1) HC0_1.out ?side3 ?side4 A3.out).mono ?_); (case side3 => repeat (first | exact (Kd.N_reads' HO242.out).2.2 | (with_reducible refine Kd.C_alloc ?_ _) | (with_reducible refine Kd.C_drewN ?_ _) | (with_reducible refine Kd.C_drew ?_))); (case side4 => exact (Kd.N_reads' HO242.out).2.1); rintro e w12 ⟨rfl, hb⟩; replace HO1 := Aside0.mk (Kd.V_below (by (with_reducible repeat (first | apply Kd.V_alloc | apply Kd.V_drewN | apply Kd.V_drew)); exact HO1.out) hb); replace HO242 := Aside0.mk (Kd.N_below (by (with_reducible repeat (first | apply Kd.N_alloc | apply Kd.N_drewN | apply Kd.N_drew)); exact HO242.out) hb); replace BK239 := Aside0.mk (blk_below (g := gb239) blkz hb); replace HB := Aside0.mk (below_step bel hb); clear hb; obtain ⟨hcz13_0, hcz13_1⟩ := bc2 BK239.out) | (go_at_call 74; (with_reducible refine (dropperref06_found.calls k a0_0 _ _ l0_1 (fun k_ => (((P1_ k_ ∨ w.heap.size ≤ k_) ∧ k_ ≠ gb239) ∧ some k_ ≠ (.slice Ao11 y240.length co11 : Value).ownBlock)) _ _ l1 t244 true _ (cbz HR0_1) HC0_1.out HO1.out A5.out).mono ?_); rintro e w14 ⟨v245, rfl, ho0, hb⟩; have HO246 := Aside0.mk (Kd.N_lower (Kd.N_mono (ok' := fun k_ => (P1_ k_ ∨ w.heap.size ≤ k_) ∧ some k_ ≠ (.slice Ao11 y240.length co11 : Value).ownBlock ∧ k_ ≠ gb239) ho0 (fun k_ hk_ => ⟨Or.elim hk_ (fun hs_ => hs_.1.1) (fun hn_ => (.inr (Nat.le_trans (below_size bel) hn_))), Or.elim hk_ (fun hs_ => hs_.2) (fun hn_ => (Kd.fresh' (Kd.N_lt (by (with_reducible repeat (first | apply Kd.N_alloc | apply Kd.N_drewN | apply Kd.N_drew)); exact HO242.out)) k_ hn_)), Or.elim hk_ (fun hs_ => hs_.1.2) (fun hn_ => (Kd.freshB (g := gb239) (o := .cells #[.int .i64 a0_0, .slice A0_1 l0_1.length c0_1] 24 (0, 0)) blkz k_ hn_))⟩)) (below_size bel)); replace HO1 := Aside0.mk (Kd.V_elder' (by (with_reducible repeat (first | apply Kd.V_alloc | apply Kd.V_drewN | apply Kd.V_drew)); exact HO1.out) (Kd.N_base ho0) hb); replace HO242 := Aside0.mk (Kd.N_elder' (by (with_reducible repeat (first | apply Kd.N_alloc | apply Kd.N_drewN | apply Kd.N_drew)); exact HO242.out) (Kd.N_base ho0) hb); replace BK239 := Aside0.mk (blk_below (g := gb239) blkz hb); replace HB := Aside0.mk (below_step bel hb); (try clear hb); (try clear hb2); (try clear hk); (try clear hi); (try clear ho0)))
   repeat (go_quiet (first | ((with_reducible refine gate_dst (N := 2) rfl ?_); refine box_event ?hg (N := 2) ?hd (cs := #[.int .i64 a0_0, .slice A0_1 l0_1.length c0_1]) (t := 24) ?hr ?_; (case hd => rfl); (case hg => rfl); (case hr => first | (go_simp; done) | (go_simp; rfl)); intro gb239 hg w7 hbox hb; have BK239 := Aside0.mk (hbox); have GW239 := bsz (w := w) hg; have GE239 := GW239; replace HO1 := Aside0.mk (Kd.V_below (Kd.V_elderB (by (with_reducible repeat (first | apply Kd.V_alloc | apply Kd.V_drewN | apply Kd.V_drew)); exact HO1.out) gb239 (Nat.le_of_eq hg.symm)) hb); replace HB := Aside0.mk (below_step bel hb); clear hb hbox hg; obtain ⟨hcz8_0, hcz8_1⟩ := bc2 BK239.out) | ((with_reducible refine gate_dst (N := 14) rfl ?_); refine Kd.N_lit (Kd.slice 3 (Kd.int .i64)) _ 25 ?hg (N' := 14) ?hd (xs := ([l1] : List (List Int))) (inner := [.slice A1 l1.length c1]) (ok := (fun k_ => (P1_ k_ ∨ w.heap.size ≤ k_) ∧ k_ ≠ gb239)) (okp := (fun k_ => (P1_ k_ ∨ w.heap.size ≤ k_) ∧ k_ ≠ gb239)) ?hr ?hp (fun _ hk => hk) ((show ∀ k_, w7.heap.size ≤ k_ → (fun k_ => (P1_ k_ ∨ w.heap.size ≤ k_) ∧ k_ ≠ gb239) k_ from fun k_ hk => ⟨(.inr (Nat.le_trans (below_size bel) hk)), Kd.freshB (g := gb239) (o := .cells #[.int .i64 a0_0, .slice A0_1 l0_1.length c0_1] 24 (0, 0)) blkz k_ hk⟩) _ (Nat.le_refl _)) (Below.refl _ _) (Nat.le_refl _) (by simp) ?_; (case hd => rfl); (case hg => rfl); (case hr => first | (go_simp; done) | (go_simp; rfl)); (case hp => exact (Reps.one (show Kd.FK (Kd.slice 3 (Kd.int .i64)) _ _ l1 [.slice A1 l1.length c1] from (Kd.FK_slice_mk (Kd.V_reads' (Kd.V_mono (ok' := (fun k_ => (P1_ k_ ∨ w.heap.size ≤ k_) ∧ k_ ≠ gb239)) (HO1.out) (fun k_ hk => ⟨hk.1, hk.2⟩))).2.1 (Kd.V_F (Kd.V_mono (ok' := (fun k_ => (P1_ k_ ∨ w.heap.size ≤ k_) ∧ k_ ≠ gb239)) (HO1.out) (fun k_ hk => ⟨hk.1, hk.2⟩))))) (Reps.none _ _))); intro v241 w9 ho10 hb hg_ hnew_; clear hg_ hnew_; (first | rw [← Ny240.out] at ho10 | (simp only [Int.reduceToNat] at ho10; rw [← Ny240.out] at ho10)); have HO242 := Aside0.mk (Kd.N_lower ho10 (below_size bel)); replace HO1 := Aside0.mk (Kd.V_elder' (by (with_reducible repeat (first | apply Kd.V_alloc | apply Kd.V_drewN | apply Kd.V_drew)); exact HO1.out) (Kd.N_base ho10) hb); replace BK239 := Aside0.mk (blk_below (g := gb239) blkz hb); replace HB := Aside0.mk (below_step bel hb); clear hb ho10; obtain ⟨Ao11, co11, eo11⟩ := Kd.N_slice HO242.out; subst eo11) | (go_at_call 72; (with_reducible refine (dropperref06_asked.calls k a0_0 _ _ l0_1 _ _ y240 t243 _ (cbz HR0_1) HC0_1.out ?side3 ?side4 A3.out).mono ?_); (case side3 => repeat (first | exact (Kd.N_reads' HO242.out).2.2 | (with_reducible refine Kd.C_alloc ?_ _) | (with_reducible refine Kd.C_drewN ?_ _) | (with_reducible refine Kd.C_drew ?_))); (case side4 => exact (Kd.N_reads' HO242.out).2.1); rintro e w12 ⟨rfl, hb⟩; replace HO1 := Aside0.mk (Kd.V_below (by (with_reducible repeat (first | apply Kd.V_alloc | apply Kd.V_drewN | apply Kd.V_drew)); exact HO1.out) hb); replace HO242 := Aside0.mk (Kd.N_below (by (with_reducible repeat (first | apply Kd.N_alloc | apply Kd.N_drewN | apply Kd.N_drew)); exact HO242.out) hb); replace BK239 := Aside0.mk (blk_below (g := gb239) blkz hb); replace HB := Aside0.mk (below_step bel hb); clear hb; obtain ⟨hcz13_0, hcz13_1⟩ := bc2 BK239.out) | (go_at_call 74; (with_reducible refine (dropperref06_found.calls k a0_0 _ _ l0_1 (fun k_ => (((P1_ k_ ∨ w.heap.size ≤ k_) ∧ k_ ≠ gb239) ∧ some k_ ≠ (.slice Ao11 y240.length co11 : Value).ownBlock)) _ _ l1 t244 true _ (cbz HR0_1) HC0_1.out HO1.out A5.out).mono ?_); rintro e w14 ⟨v245, rfl, ho0, hb⟩; have HO246 := Aside0.mk (Kd.N_lower (Kd.N_mono (ok' := fun k_ => (P1_ k_ ∨ w.heap.size ≤ k_) ∧ some k_ ≠ (.slice Ao11 y240.length co11 : Value).ownBlock ∧ k_ ≠ gb239) ho0 (fun k_ hk_ => ⟨Or.elim hk_ (fun hs_ => hs_.1.1) (fun hn_ => (.inr (Nat.le_trans (below_size bel) hn_))), Or.elim hk_ (fun hs_ => hs_.2) (fun hn_ => (Kd.fresh' (Kd.N_lt (by (with_reducible repeat (first | apply Kd.N_alloc | apply Kd.N_drewN | apply Kd.N_drew)); exact HO242.out)) k_ hn_)), Or.elim hk_ (fun hs_ => hs_.1.2) (fun hn_ => (Kd.freshB (g := gb239) (o := .cells #[.int .i64 a0_0, .slice A0_1 l0_1.length c0_1] 24 (0, 0)) blkz k_ hn_))⟩)) (below_size bel)); replace HO1 := Aside0.mk (Kd.V_elder' (by (with_reducible repeat (first | apply Kd.V_alloc | apply Kd.V_drewN | apply Kd.V_drew)); exact HO1.out) (Kd.N_base ho0) hb); replace HO242 := Aside0.mk (Kd.N_elder' (by (with_reducible repeat (first | apply Kd.N_alloc | apply Kd.N_drewN | apply Kd.N_drew)); exact HO242.out) (Kd.N_base ho0) hb); replace BK239 := Aside0.mk (blk_below (g := gb239) blkz hb); replace HB := Aside0.mk (below_step bel hb); (try clear hb); (try clear hb2); (try clear hk); (try clear hi); (try clear ho0))); try go_wp2_with (first | ((with_reducible refine gate_dst (N := 2) rfl ?_); refine box_event ?hg (N := 2) ?hd (cs := #[.int .i64 a0_0, .slice A0_1 l0_1.length c0_1]) (t := 24) ?hr ?_; (case hd => rfl); (case hg => rfl); (case hr => first | (go_simp; done) | (go_simp; rfl)); intro gb239 hg w7 hbox hb; have BK239 := Aside0.mk (hbox); have GW239 := bsz (w := w) hg; have GE239 := GW239; replace HO1 := Aside0.mk (Kd.V_below (Kd.V_elderB (by (with_reducible repeat (first | apply Kd.V_alloc | apply Kd.V_drewN | apply Kd.V_drew)); exact HO1.out) gb239 (Nat.le_of_eq hg.symm)) hb); replace HB := Aside0.mk (below_step bel hb); clear hb hbox hg; obtain ⟨hcz8_0, hcz8_1⟩ := bc2 BK239.out) | ((with_reducible refine gate_dst (N := 14) rfl ?_); refine Kd.N_lit (Kd.slice 3 (Kd.int .i64)) _ 25 ?hg (N' := 14) ?hd (xs := ([l1] : List (List Int))) (inner := [.slice A1 l1.length c1]) (ok := (fun k_ => (P1_ k_ ∨ w.heap.size ≤ k_) ∧ k_ ≠ gb239)) (okp := (fun k_ => (P1_ k_ ∨ w.heap.size ≤ k_) ∧ k_ ≠ gb239)) ?hr ?hp (fun _ hk => hk) ((show ∀ k_, w7.heap.size ≤ k_ → (fun k_ => (P1_ k_ ∨ w.heap.size ≤ k_) ∧ k_ ≠ gb239) k_ from fun k_ hk => ⟨(.inr (Nat.le_trans (below_size bel) hk)), Kd.freshB (g := gb239) (o := .cells #[.int .i64 a0_0, .slice A0_1 l0_1.length c0_1] 24 (0, 0)) blkz k_ hk⟩) _ (Nat.le_refl _)) (Below.refl _ _) (Nat.le_refl _) (by simp) ?_; (case hd => rfl); (case hg => rfl); (case hr => first | (go_simp; done) | (go_simp; rfl)); (case hp => exact (Reps.one (show Kd.FK (Kd.slice 3 (Kd.int .i64)) _ _ l1 [.slice A1 l1.length c1] from (Kd.FK_slice_mk (Kd.V_reads' (Kd.V_mono (ok' := (fun k_ => (P1_ k_ ∨ w.heap.size ≤ k_) ∧ k_ ≠ gb239)) (HO1.out) (fun k_ hk => ⟨hk.1, hk.2⟩))).2.1 (Kd.V_F (Kd.V_mono (ok' := (fun k_ => (P1_ k_ ∨ w.heap.size ≤ k_) ∧ k_ ≠ gb239)) (HO1.out) (fun k_ hk => ⟨hk.1, hk.2⟩))))) (Reps.none _ _))); intro v241 w9 ho10 hb hg_ hnew_; clear hg_ hnew_; (first | rw [← Ny240.out] at ho10 | (simp only [Int.reduceToNat] at ho10; rw [← Ny240.out] at ho10)); have HO242 := Aside0.mk (Kd.N_lower ho10 (below_size bel)); replace HO1 := Aside0.mk (Kd.V_elder' (by (with_reducible repeat (first | apply Kd.V_alloc | apply Kd.V_drewN | apply Kd.V_drew)); exact HO1.out) (Kd.N_base ho10) hb); replace BK239 := Aside0.mk (blk_below (g := gb239) blkz hb); replace HB := Aside0.mk (below_step bel hb); clear hb ho10; obtain ⟨Ao11, co11, eo11⟩ := Kd.N_slice HO242.out; subst eo11) | (go_at_call 72; (with_reducible refine (dropperref06_asked.calls k a0_0 _ _ l0_1 _ _ y240 t243 _ (cbz HR0_1) HC0_1.out ?side3 ?side4 A3.out).mono ?_); (case side3 => repeat (first | exact (Kd.N_reads' HO242.out).2.2 | (with_reducible refine Kd.C_alloc ?_ _) | (with_reducible refine Kd.C_drewN ?_ _) | (with_reducible refine Kd.C_drew ?_))); (case side4 => exact (Kd.N_reads' HO242.out).2.1); rintro e w12 ⟨rfl, hb⟩; replace HO1 := Aside0.mk (Kd.V_below (by (with_reducible repeat (first | apply Kd.V_alloc | apply Kd.V_drewN | apply Kd.V_drew)); exact HO1.out) hb); replace HO242 := Aside0.mk (Kd.N_below (by (with_reducible repeat (first | apply Kd.N_alloc | apply Kd.N_drewN | apply Kd.N_drew)); exact HO242.out) hb); replace BK239 := Aside0.mk (blk_below (g := gb239) blkz hb); replace HB := Aside0.mk (below_step bel hb); clear hb; obtain ⟨hcz13_0, hcz13_1⟩ := bc2 BK239.out) | (go_at_call 74; (with_reducible refine (dropperref06_found.calls k a0_0 _ _ l0_1 (fun k_ => (((P1_ k_ ∨ w.heap.size ≤ k_) ∧ k_ ≠ gb239) ∧ some k_ ≠ (.slice Ao11 y240.length co11 : Value).ownBlock)) _ _ l1 t244 true _ (cbz HR0_1) HC0_1.out HO1.out A5.out).mono ?_); rintro e w14 ⟨v245, rfl, ho0, hb⟩; have HO246 := Aside0.mk (Kd.N_lower (Kd.N_mono (ok' := fun k_ => (P1_ k_ ∨ w.heap.size ≤ k_) ∧ some k_ ≠ (.slice Ao11 y240.length co11 : Value).ownBlock ∧ k_ ≠ gb239) ho0 (fun k_ hk_ => ⟨Or.elim hk_ (fun hs_ => hs_.1.1) (fun hn_ => (.inr (Nat.le_trans (below_size bel) hn_))), Or.elim hk_ (fun hs_ => hs_.2) (fun hn_ => (Kd.fresh' (Kd.N_lt (by (with_reducible repeat (first | apply Kd.N_alloc | apply Kd.N_drewN | apply Kd.N_drew)); exact HO242.out)) k_ hn_)), Or.elim hk_ (fun hs_ => hs_.1.2) (fun hn_ => (Kd.freshB (g := gb239) (o := .cells #[.int .i64 a0_0, .slice A0_1 l0_1.length c0_1] 24 (0, 0)) blkz k_ hn_))⟩)) (below_size bel)); replace HO1 := Aside0.mk (Kd.V_elder' (by (with_reducible repeat (first | apply Kd.V_alloc | apply Kd.V_drewN | apply Kd.V_drew)); exact HO1.out) (Kd.N_base ho0) hb); replace HO242 := Aside0.mk (Kd.N_elder' (by (with_reducible repeat (first | apply Kd.N_alloc | apply Kd.N_drewN | apply Kd.N_drew)); exact HO242.out) (Kd.N_base ho0) hb); replace BK239 := Aside0.mk (blk_below (g := gb239) blkz hb); replace HB := Aside0.mk (below_step bel hb); (try clear hb); (try clear hb2); (try clear hk); (try clear hi); (try clear ho0))))
   go_loopg [9, 10] k (fun kq v9 v10 w' => ∃ (x9_1 : List (List Int)) (x10_1 : Int), v10 = .int .i64 x10_1 ∧ Aside0 (dropperref06_Reach.l0 kq t244 x9_1 x10_1 = some (r1, r2)) ∧ Aside0 (kq ≤ k) ∧ Aside0 (Kd.N k87 87 w' w.heap.size (fun k_ => (P1_ k_ ∨ w.heap.size ≤ k_) ∧ some k_ ≠ (v9 : Value).ownBlock ∧ k_ ≠ gb239) v245 t244) ∧ Aside0 (Kd.N (Kd.slice 3 (Kd.int .i64)) 25 w' w.heap.size (fun k_ => (P1_ k_ ∨ w.heap.size ≤ k_) ∧ some k_ ≠ (v245 : Value).ownBlock ∧ k_ ≠ gb239) v9 x9_1) ∧ Aside0 (w'.heap[gb239]? = some (.cells #[.int .i64 a0_0, (.slice A0_1 l0_1.length c0_1)] 24 (0, 0))) ∧ Aside0 (Below w.heap.size w w'))
   case atStart => exact ⟨(([] : List (List Int))), (0), rsz, H', ⟨Nat.le_refl _⟩, ⟨by (with_reducible repeat (first | apply Kd.N_alloc | apply Kd.N_drewN | apply Kd.N_drew)); exact Kd.N_mono HO246.out (fun _ hk => ⟨hk.1, ⟨(by simp [Value.ownBlock]), hk.2.2⟩⟩)⟩, ⟨by first | exact Kd.S_nil _ _ _ _ _ | exact Kd.N_nil _ _ _ _ _ | exact Kd.V_nil _ _ _ _ _ | exact Kd.Q_nil _ _ _ _ _ | exact Kd.R_nil _ _ _ _ _⟩, ⟨blkz⟩, ⟨bel⟩⟩
   case round =>
    clear H'
    (try clear c1); (try clear p2); (try clear c3); (try clear c4); (try clear c4b0); (try clear c4b1); (try clear c6); (try clear hcz13_0); (try clear hcz13_1); (try clear hcz8_0); (try clear hcz8_1); (try clear hfz13_0); (try clear hfz13_1); (try clear hfz8_0); (try clear hfz8_1)
    obtain ⟨x9_1, x10_1, rfl, HA, HK1, HO_7, HO_9, BK239, HB⟩ := hrel
    cases gk with
    | zero => exact absurd HA.out (by simp [dropperref06_Reach.l0])
    | succ k1 =>
     have H := HA.out
     clear HA
     simp only [dropperref06_Reach.l0] at H
     by_cases c15 : x10_1 < (t244.length : Int)
     ·
      rw [if_pos c15] at H
      have c15b0 : decide (x10_1 < (t244.length : Int)) = true := decide_eq_true c15
      clear c15
      have H' := Aside0.mk H
      clear H
      obtain ⟨Ao16, co16, eo16⟩ := Kd.N_slice HO_7.out
      subst eo16
      obtain ⟨Ao17, co17, eo17⟩ := Kd.N_slice HO_9.out
      subst eo17
      go_wp2
      repeat (go_quiet (fail); try go_wp2)
      go_loopg [11] k1 (fun kq v11 w' => ∃ (x11_2 : Int), v11 = .int .i64 x11_2 ∧ Aside0 (dropperref06_Reach.l1 kq t244 x9_1 x10_1 x11_2 = some (r1, r2)) ∧ Aside0 (kq ≤ k1) ∧ Aside0 (Kd.N k87 87 w' w.heap.size (fun k_ => (P1_ k_ ∨ w.heap.size ≤ k_) ∧ some k_ ≠ ((.slice Ao17 x9_1.length co17) : Value).ownBlock ∧ k_ ≠ gb239) (.slice Ao16 t244.length co16) t244) ∧ Aside0 (Kd.N (Kd.slice 3 (Kd.int .i64)) 25 w' w.heap.size (fun k_ => (P1_ k_ ∨ w.heap.size ≤ k_) ∧ some k_ ≠ ((.slice Ao16 t244.length co16) : Value).ownBlock ∧ k_ ≠ gb239) (.slice Ao17 x9_1.length co17) x9_1) ∧ Aside0 (w'.heap[gb239]? = some (.cells #[.int .i64 a0_0, (.slice A0_1 l0_1.length c0_1)] 24 (0, 0))) ∧ Aside0 (Below w.heap.size w w'))
      case atStart => exact ⟨((x9_1.length : Int)), rsz, H', ⟨Nat.le_refl _⟩, ⟨by (with_reducible repeat (first | apply Kd.N_alloc | apply Kd.N_drewN | apply Kd.N_drew)); exact HO_7.out⟩, ⟨by (with_reducible repeat (first | apply Kd.N_alloc | apply Kd.N_drewN | apply Kd.N_drew)); exact HO_9.out⟩, ⟨blkz⟩, ⟨bel⟩⟩
      case round =>
       clear H'
       (try clear c1); (try clear p2); (try clear c3); (try clear c4); (try clear c4b0); (try clear c4b1); (try clear c6); (try clear c15); (try clear c15b0); (try clear hcz13_0); (try clear hcz13_1); (try clear hcz8_0); (try clear hcz8_1); (try clear hfz13_0); (try clear hfz13_1); (try clear hfz8_0); (try clear hfz8_1); (try clear p2)
       obtain ⟨x11_2, rfl, HA, HK2, HO_7, HO_9, BK239, HB⟩ := hrel
       cases gk with
       | zero => exact absurd HA.out (by simp [dropperref06_Reach.l1])
       | succ k2 =>
        have H := HA.out
        clear HA
        simp only [dropperref06_Reach.l1] at H
        by_cases c18 : x11_2 > 0
        ·
         rw [if_pos c18] at H
         have c18b0 : decide (0 < x11_2) = true := decide_eq_true c18
         clear c18
         by_cases c19 : 0 ≤ x10_1
         ·
          rw [if_pos c19] at H
          have c19b0 : decide (0 ≤ x10_1) = true := decide_eq_true c19
          clear c19
          by_cases c20 : x10_1 < (t244.length : Int)
          ·
           rw [if_pos c20] at H
           have c20b0 : decide (x10_1 < (t244.length : Int)) = true := decide_eq_true c20
           clear c20
           obtain ⟨ji21, hji21⟩ : ∃ j_ : Int, (wrap64 (x11_2 - 1)) = j_ := ⟨_, rfl⟩
           replace H : (if 0 ≤ (ji21) then (if (ji21) < (x9_1.length : Int) then ((dropperref06_less.f k2 ((rd_T87 t244 x10_1).f0) (rd_L1 x9_1 (ji21))).bind fun t250 => (if t250 = true then (dropperref06_Reach.l1 k2 t244 x9_1 x10_1 ji21) else (if 0 ≤ x11_2 ∧ x11_2 ≤ (x9_1.length : Int) ∧ x9_1.length < 100000 then (dropperref06_Reach.l0 k2 t244 (x9_1.take (x11_2).toNat ++ (rd_T87 t244 x10_1).f0 :: x9_1.drop (x11_2).toNat) (wrap64 (x10_1 + 1))) else (none)))) else (none)) else (none)) = some (r1, r2) := by first | (rw [hji21] at H; exact H) | (simp only [hji21] at H ⊢; exact H)
           have hji21w : (IntKind.i64.wrap (x11_2 - 1)) = ji21 := (i64_w _).trans hji21
           by_cases c22 : 0 ≤ (ji21)
           ·
            rw [if_pos c22] at H
            have c22b0 : decide (0 ≤ (ji21)) = true := decide_eq_true c22
            clear c22
            by_cases c23 : (ji21) < (x9_1.length : Int)
            ·
             rw [if_pos c23] at H
             have c23b0 : decide ((ji21) < (x9_1.length : Int)) = true := decide_eq_true c23
             clear c23
             replace H := Option.bind_eq_some_iff.mp H
             obtain ⟨t250, A240, H⟩ := H
             try dsimp only at H
             have A24 := Aside0.mk A240
             clear A240
             by_cases c25 : t250 = true
             ·
              subst c25
              rw [if_pos rfl] at H
              have H' := Aside0.mk H
              clear H
              have p248 : 0 ≤ (x10_1 : Int) := of_decide_eq_true asz
              have q248 : x10_1 < (t244.length : Int) := of_decide_eq_true asz
              obtain ⟨ad248, A248_0, c248_0, A248_1, c248_1, e248, hx248_0, hx248_1, hl248_0, hi248_0, hl248_1, hi248_1⟩ := at_T87 (Kd.N_reads' HO_7.out).2.2 x10_1 p248 q248
              cases e248
              obtain ⟨ce248, hce248, hMe248, hcc248⟩ := Kd.N_get HO_7.out z87 x10_1 p248 (by first | exact q248 | exact of_decide_eq_true asz | (have e_ := (Kd.N_reads' HO_7.out).1; omega))
              obtain ⟨ua248_0, uc248_0, ua248_1, uc248_1, rfl, ul248_0, ge248_0, ul248_1, ge248_1⟩ := k87_openF hMe248
              have hv248_0 := hcc248 0 _ rfl
              rw [Nat.add_zero] at hv248_0
              replace hv248_0 := Option.some.inj (hv248_0.symm.trans hx248_0)
              injection hv248_0 with hva_ hvn_ hvc_
              rw [hva_] at ge248_0
              rw [hvc_] at ul248_0
              have HL248_0 := Aside0.mk (show Kd.V (Kd.int .i64) 3 _ w.heap.size _ _ ((rd_T87 t244 x10_1).f0) from Kd.V_mk ul248_0 ge248_0)
              clear hva_ hvn_ hvc_ ge248_0 ul248_0
              have hv248_1 := hcc248 1 _ rfl
              rw [add_field _ _ 1 (by omega)] at hv248_1
              replace hv248_1 := Option.some.inj (hv248_1.symm.trans hx248_1)
              injection hv248_1 with hva_ hvn_ hvc_
              rw [hva_] at ge248_1
              rw [hvc_] at ul248_1
              have HL248_1 := Aside0.mk (show Kd.V (Kd.int .i64) 3 _ w.heap.size _ _ ((rd_T87 t244 x10_1).f1) from Kd.V_mk ul248_1 ge248_1)
              clear hva_ hvn_ hvc_ ge248_1 ul248_1
              clear hcc248 hce248
              have HR248_0 := Aside0.mk hi248_0
              have HC248_0 := Aside0.mk hl248_0
              clear hi248_0 hl248_0
              have HR248_1 := Aside0.mk hi248_1
              have HC248_1 := Aside0.mk hl248_1
              clear hi248_1 hl248_1
              replace p248 := eq_true p248
              replace q248 := eq_true q248
              have p249 : 0 ≤ ((ji21) : Int) := of_decide_eq_true asz
              have q249 : (ji21) < (x9_1.length : Int) := of_decide_eq_true asz
              obtain ⟨ad249, A249_0, c249_0, e249, hx249_0, hl249_0, hi249_0⟩ := at_L1 (Kd.N_reads' HO_9.out).2.2 (ji21) p249 q249
              cases e249
              obtain ⟨ce249, hce249, hMe249, hcc249⟩ := Kd.N_get HO_9.out [] (ji21) p249 (by first | exact q249 | exact of_decide_eq_true asz | (have e_ := (Kd.N_reads' HO_9.out).1; omega))
              obtain ⟨ua249_0, uc249_0, rfl, ul249_0, ge249_0⟩ := Kd.FK_slice_open hMe249
              have hv249_0 := hcc249 0 _ rfl
              rw [Nat.add_zero, show ((Kd.slice 3 (Kd.int .i64))).sz = 1 from rfl, Nat.mul_one] at hv249_0
              replace hv249_0 := Option.some.inj (hv249_0.symm.trans hx249_0)
              injection hv249_0 with hva_ hvn_ hvc_
              rw [hva_] at ge249_0
              rw [hvc_] at ul249_0
              have HL249_0 := Aside0.mk (show Kd.V (Kd.int .i64) 3 _ w.heap.size _ _ (rd_L1 x9_1 (ji21)) from Kd.V_mk ul249_0 ge249_0)
              clear hva_ hvn_ hvc_ ge249_0 ul249_0
              clear hcc249 hce249
              have HR249_0 := Aside0.mk hi249_0
              have HC249_0 := Aside0.mk hl249_0
              clear hi249_0 hl249_0
              replace p249 := eq_true p249
              replace q249 := eq_true q249
              go_wp2_with (first | (go_at_call 75; (with_reducible refine (dropperref06_less.calls k2 _ _ ((rd_T87 t244 x10_1).f0) _ _ (rd_L1 x9_1 (ji21)) true _ ?side1 HC248_0.out ?side3 HC249_0.out A24.out).mono ?_); (case side1 => repeat (first | exact (by repeat (first | (with_reducible exact HR248_0.out) | (with_reducible refine Kd.C_alloc ?_ _) | (with_reducible refine Kd.C_drewN ?_ _) | (with_reducible refine Kd.C_drew ?_) | exact HR248_0.out)) | (with_reducible refine Kd.C_alloc ?_ _) | (with_reducible refine Kd.C_drewN ?_ _) | (with_reducible refine Kd.C_drew ?_))); (case side3 => repeat (first | exact (by repeat (first | (with_reducible exact HR249_0.out) | (with_reducible refine Kd.C_alloc ?_ _) | (with_reducible refine Kd.C_drewN ?_ _) | (with_reducible refine Kd.C_drew ?_) | exact HR249_0.out)) | (with_reducible refine Kd.C_alloc ?_ _) | (with_reducible refine Kd.C_drewN ?_ _) | (with_reducible refine Kd.C_drew ?_))); rintro e w' ⟨rfl, ⟨nd, rfl⟩⟩; (try first | exact ⟨rfl, _, World.drewN_drewN _ _ _⟩ | exact ⟨rfl, _, Eq.trans (World.drewN_drewN _ _ _) (congrArg (World.drewN _) (Nat.add_assoc _ _ _))⟩)))
              repeat (go_quiet (first | (go_at_call 75; (with_reducible refine (dropperref06_less.calls k2 _ _ ((rd_T87 t244 x10_1).f0) _ _ (rd_L1 x9_1 (ji21)) true _ ?side1 HC248_0.out ?side3 HC249_0.out A24.out).mono ?_); (case side1 => repeat (first | exact (by repeat (first | (with_reducible exact HR248_0.out) | (with_reducible refine Kd.C_alloc ?_ _) | (with_reducible refine Kd.C_drewN ?_ _) | (with_reducible refine Kd.C_drew ?_) | exact HR248_0.out)) | (with_reducible refine Kd.C_alloc ?_ _) | (with_reducible refine Kd.C_drewN ?_ _) | (with_reducible refine Kd.C_drew ?_))); (case side3 => repeat (first | exact (by repeat (first | (with_reducible exact HR249_0.out) | (with_reducible refine Kd.C_alloc ?_ _) | (with_reducible refine Kd.C_drewN ?_ _) | (with_reducible refine Kd.C_drew ?_) | exact HR249_0.out)) | (with_reducible refine Kd.C_alloc ?_ _) | (with_reducible refine Kd.C_drewN ?_ _) | (with_reducible refine Kd.C_drew ?_))); rintro e w' ⟨rfl, ⟨nd, rfl⟩⟩; (try first | exact ⟨rfl, _, World.drewN_drewN _ _ _⟩ | exact ⟨rfl, _, Eq.trans (World.drewN_drewN _ _ _) (congrArg (World.drewN _) (Nat.add_assoc _ _ _))⟩))); try go_wp2_with (first | (go_at_call 75; (with_reducible refine (dropperref06_less.calls k2 _ _ ((rd_T87 t244 x10_1).f0) _ _ (rd_L1 x9_1 (ji21)) true _ ?side1 HC248_0.out ?side3 HC249_0.out A24.out).mono ?_); (case side1 => repeat (first | exact (by repeat (first | (with_reducible exact HR248_0.out) | (with_reducible refine Kd.C_alloc ?_ _) | (with_reducible refine Kd.C_drewN ?_ _) | (with_reducible refine Kd.C_drew ?_) | exact HR248_0.out)) | (with_reducible refine Kd.C_alloc ?_ _) | (with_reducible refine Kd.C_drewN ?_ _) | (with_reducible refine Kd.C_drew ?_))); (case side3 => repeat (first | exact (by repeat (first | (with_reducible exact HR249_0.out) | (with_reducible refine Kd.C_alloc ?_ _) | (with_reducible refine Kd.C_drewN ?_ _) | (with_reducible refine Kd.C_drew ?_) | exact HR249_0.out)) | (with_reducible refine Kd.C_alloc ?_ _) | (with_reducible refine Kd.C_drewN ?_ _) | (with_reducible refine Kd.C_drew ?_))); rintro e w' ⟨rfl, ⟨nd, rfl⟩⟩; (try first | exact ⟨rfl, _, World.drewN_drewN _ _ _⟩ | exact ⟨rfl, _, Eq.trans (World.drewN_drewN _ _ _) (congrArg (World.drewN _) (Nat.add_assoc _ _ _))⟩))))
              go_roundg k2
              case measure => have := HK1.out; have := HK2.out; omega
              case rel => exact ⟨(ji21), (by first | rfl | (simp; done) | (simp only [← hji21] <;> (first | rfl | simp)) | (simp [*]; done)), H', ⟨by have := HK1.out; have := HK2.out; omega⟩, ⟨by (with_reducible repeat (first | apply Kd.N_alloc | apply Kd.N_drewN | apply Kd.N_drew)); exact HO_7.out⟩, ⟨by (with_reducible repeat (first | apply Kd.N_alloc | apply Kd.N_drewN | apply Kd.N_drew)); exact HO_9.out⟩, ⟨blkz⟩, ⟨bel⟩⟩
             ·
              replace c25 := Bool.eq_false_iff.mpr c25
              subst c25
              rw [if_neg (show ¬ (false = true) by decide)] at H
              by_cases c26 : ¬ (0 ≤ x11_2 ∧ x11_2 ≤ (x9_1.length : Int) ∧ x9_1.length < 100000)
              ·
               rw [if_neg c26] at H; exact absurd H (by simp)
              replace c26 := Decidable.not_not.1 c26
              rw [if_pos c26] at H
              have C26 := Aside0.mk c26
              have d26 := eq_true c26.1
              have d26b := eq_true c26.2.1
              clear c26
              have H' := Aside0.mk H
              clear H
              have p248 : 0 ≤ (x10_1 : Int) := of_decide_eq_true asz
              have q248 : x10_1 < (t244.length : Int) := of_decide_eq_true asz
              obtain ⟨ad248, A248_0, c248_0, A248_1, c248_1, e248, hx248_0, hx248_1, hl248_0, hi248_0, hl248_1, hi248_1⟩ := at_T87 (Kd.N_reads' HO_7.out).2.2 x10_1 p248 q248
              cases e248
              obtain ⟨ce248, hce248, hMe248, hcc248⟩ := Kd.N_get HO_7.out z87 x10_1 p248 (by first | exact q248 | exact of_decide_eq_true asz | (have e_ := (Kd.N_reads' HO_7.out).1; omega))
              obtain ⟨ua248_0, uc248_0, ua248_1, uc248_1, rfl, ul248_0, ge248_0, ul248_1, ge248_1⟩ := k87_openF hMe248
              have hv248_0 := hcc248 0 _ rfl
              rw [Nat.add_zero] at hv248_0
              replace hv248_0 := Option.some.inj (hv248_0.symm.trans hx248_0)
              injection hv248_0 with hva_ hvn_ hvc_
              rw [hva_] at ge248_0
              rw [hvc_] at ul248_0
              have HL248_0 := Aside0.mk (show Kd.V (Kd.int .i64) 3 _ w.heap.size _ _ ((rd_T87 t244 x10_1).f0) from Kd.V_mk ul248_0 ge248_0)
              clear hva_ hvn_ hvc_ ge248_0 ul248_0
              have hv248_1 := hcc248 1 _ rfl
              rw [add_field _ _ 1 (by omega)] at hv248_1
              replace hv248_1 := Option.some.inj (hv248_1.symm.trans hx248_1)
              injection hv248_1 with hva_ hvn_ hvc_
              rw [hva_] at ge248_1
              rw [hvc_] at ul248_1
              have HL248_1 := Aside0.mk (show Kd.V (Kd.int .i64) 3 _ w.heap.size _ _ ((rd_T87 t244 x10_1).f1) from Kd.V_mk ul248_1 ge248_1)
              clear hva_ hvn_ hvc_ ge248_1 ul248_1
              clear hcc248 hce248
              have HR248_0 := Aside0.mk hi248_0
              have HC248_0 := Aside0.mk hl248_0
              clear hi248_0 hl248_0
              have HR248_1 := Aside0.mk hi248_1
              have HC248_1 := Aside0.mk hl248_1
              clear hi248_1 hl248_1
              replace p248 := eq_true p248
              replace q248 := eq_true q248
              have p249 : 0 ≤ ((ji21) : Int) := of_decide_eq_true asz
              have q249 : (ji21) < (x9_1.length : Int) := of_decide_eq_true asz
              obtain ⟨ad249, A249_0, c249_0, e249, hx249_0, hl249_0, hi249_0⟩ := at_L1 (Kd.N_reads' HO_9.out).2.2 (ji21) p249 q249
              cases e249
              obtain ⟨ce249, hce249, hMe249, hcc249⟩ := Kd.N_get HO_9.out [] (ji21) p249 (by first | exact q249 | exact of_decide_eq_true asz | (have e_ := (Kd.N_reads' HO_9.out).1; omega))
              obtain ⟨ua249_0, uc249_0, rfl, ul249_0, ge249_0⟩ := Kd.FK_slice_open hMe249
              have hv249_0 := hcc249 0 _ rfl
              rw [Nat.add_zero, show ((Kd.slice 3 (Kd.int .i64))).sz = 1 from rfl, Nat.mul_one] at hv249_0
              replace hv249_0 := Option.some.inj (hv249_0.symm.trans hx249_0)
              injection hv249_0 with hva_ hvn_ hvc_
              rw [hva_] at ge249_0
              rw [hvc_] at ul249_0
              have HL249_0 := Aside0.mk (show Kd.V (Kd.int .i64) 3 _ w.heap.size _ _ (rd_L1 x9_1 (ji21)) from Kd.V_mk ul249_0 ge249_0)
              clear hva_ hvn_ hvc_ ge249_0 ul249_0
              clear hcc249 hce249
              have HR249_0 := Aside0.mk hi249_0
              have HC249_0 := Aside0.mk hl249_0
              clear hi249_0 hl249_0
              replace p249 := eq_true p249
              replace q249 := eq_true q249
              go_wp2_with (first | (go_at_call 75; (with_reducible refine (dropperref06_less.calls k2 _ _ ((rd_T87 t244 x10_1).f0) _ _ (rd_L1 x9_1 (ji21)) false _ ?side1 HC248_0.out ?side3 HC249_0.out A24.out).mono ?_); (case side1 => repeat (first | exact (by repeat (first | (with_reducible exact HR248_0.out) | (with_reducible refine Kd.C_alloc ?_ _) | (with_reducible refine Kd.C_drewN ?_ _) | (with_reducible refine Kd.C_drew ?_) | exact HR248_0.out)) | (with_reducible refine Kd.C_alloc ?_ _) | (with_reducible refine Kd.C_drewN ?_ _) | (with_reducible refine Kd.C_drew ?_))); (case side3 => repeat (first | exact (by repeat (first | (with_reducible exact HR249_0.out) | (with_reducible refine Kd.C_alloc ?_ _) | (with_reducible refine Kd.C_drewN ?_ _) | (with_reducible refine Kd.C_drew ?_) | exact HR249_0.out)) | (with_reducible refine Kd.C_alloc ?_ _) | (with_reducible refine Kd.C_drewN ?_ _) | (with_reducible refine Kd.C_drew ?_))); rintro e w' ⟨rfl, ⟨nd, rfl⟩⟩; (try first | exact ⟨rfl, _, World.drewN_drewN _ _ _⟩ | exact ⟨rfl, _, Eq.trans (World.drewN_drewN _ _ _) (congrArg (World.drewN _) (Nat.add_assoc _ _ _))⟩)))
              go_quiet (first | (go_at_call 75; (with_reducible refine (dropperref06_less.calls k2 _ _ ((rd_T87 t244 x10_1).f0) _ _ (rd_L1 x9_1 (ji21)) false _ ?side1 HC248_0.out ?side3 HC249_0.out A24.out).mono ?_); (case side1 => repeat (first | exact (by repeat (first | (with_reducible exact HR248_0.out) | (with_reducible refine Kd.C_alloc ?_ _) | (with_reducible refine Kd.C_drewN ?_ _) | (with_reducible refine Kd.C_drew ?_) | exact HR248_0.out)) | (with_reducible refine Kd.C_alloc ?_ _) | (with_reducible refine Kd.C_drewN ?_ _) | (with_reducible refine Kd.C_drew ?_))); (case side3 => repeat (first | exact (by repeat (first | (with_reducible exact HR249_0.out) | (with_reducible refine Kd.C_alloc ?_ _) | (with_reducible refine Kd.C_drewN ?_ _) | (with_reducible refine Kd.C_drew ?_) | exact HR249_0.out)) | (with_reducible refine Kd.C_alloc ?_ _) | (with_reducible refine Kd.C_drewN ?_ _) | (with_reducible refine Kd.C_drew ?_))); rintro e w' ⟨rfl, ⟨nd, rfl⟩⟩; (try first | exact ⟨rfl, _, World.drewN_drewN _ _ _⟩ | exact ⟨rfl, _, Eq.trans (World.drewN_drewN _ _ _) (congrArg (World.drewN _) (Nat.add_assoc _ _ _))⟩)))
              try go_wp2_with (first | (go_at_call 75; (with_reducible refine (dropperref06_less.calls k2 _ _ ((rd_T87 t244 x10_1).f0) _ _ (rd_L1 x9_1 (ji21)) false _ ?side1 HC248_0.out ?side3 HC249_0.out A24.out).mono ?_); (case side1 => repeat (first | exact (by repeat (first | (with_reducible exact HR248_0.out) | (with_reducible refine Kd.C_alloc ?_ _) | (with_reducible refine Kd.C_drewN ?_ _) | (with_reducible refine Kd.C_drew ?_) | exact HR248_0.out)) | (with_reducible refine Kd.C_alloc ?_ _) | (with_reducible refine Kd.C_drewN ?_ _) | (with_reducible refine Kd.C_drew ?_))); (case side3 => repeat (first | exact (by repeat (first | (with_reducible exact HR249_0.out) | (with_reducible refine Kd.C_alloc ?_ _) | (with_reducible refine Kd.C_drewN ?_ _) | (with_reducible refine Kd.C_drew ?_) | exact HR249_0.out)) | (with_reducible refine Kd.C_alloc ?_ _) | (with_reducible refine Kd.C_drewN ?_ _) | (with_reducible refine Kd.C_drew ?_))); rintro e w' ⟨rfl, ⟨nd, rfl⟩⟩; (try first | exact ⟨rfl, _, World.drewN_drewN _ _ _⟩ | exact ⟨rfl, _, Eq.trans (World.drewN_drewN _ _ _) (congrArg (World.drewN _) (Nat.add_assoc _ _ _))⟩)))
              obtain ⟨k11, hk11⟩ : ∃ k : Nat, x11_2 = (k : Int) := ⟨x11_2.toNat, by have := C26.out; omega⟩
              subst hk11
              have hpos9 : 0 < x9_1.length := by have h1 := of_eq_true q249; have h2 := of_eq_true p249; omega
              obtain ⟨g9, cap9, e9, _⟩ := Kd.N_form HO_9.out hpos9
              injection e9 with e9a e9b e9c
              injection e9a with e9a
              subst e9a
              clear e9b e9c
              have hcap : x9_1.length ≤ co17 := (Kd.N_reads' HO_9.out).2.1
              have hk9 : k11 ≤ x9_1.length := by have := C26.out; omega
              have z0 : (0 : Int) ≤ (k11 : Int) := by omega
              have z1 : (k11 : Int) ≤ (x9_1.length : Int) := by omega
              have z2 : (k11 : Int) ≤ (co17 : Int) := by omega
              have z3 : (x9_1.length : Int) ≤ (co17 : Int) := by omega
              have HLEN : Aside0 (x9_1.length < 100000) := ⟨C26.out.2.2⟩
              have HK9 := Aside0.mk hk9
              have HCAP := Aside0.mk hcap
              replace HO_7 := Aside0.mk (Kd.N_drew (Kd.N_drewN HO_7.out nq))
              replace HO_9 := Aside0.mk (Kd.N_drew (Kd.N_drewN HO_9.out nq))
              replace BK239 := Aside0.mk (blk_drew (blk_drewN BK239.out nq))
              replace HB := Aside0.mk (below_drew1 (pw_below_drewN HB.out nq))
              have HE := Aside0.mk (Kd.V_drew (Kd.V_drewN HL248_0.out nq))
              have hx0 : ((wr.drewN nq).drew).cell? (ad248.add (x10_1.toNat * 2)) = some (.slice A248_0 ((rd_T87 t244 x10_1).f0).length c248_0) := hx248_0
              refine start_ (n := 16) (S := fun w' => w'.cell? (ad248.add (x10_1.toNat * 2)) = some (.slice A248_0 ((rd_T87 t244 x10_1).f0).length c248_0)) (ds := []) #[false, false, false, false, false, false, false, false, false, false, false, false, false, false, false, false] (by kernel_rfl) rfl rfl hx0 (fun hHeld => ?_)
              clear hx0
              generalize (wr.drewN nq).drew = w14 at HO_7 HO_9 BK239 HB HE hHeld ⊢
              refine pst (i := 0) (N := some 52) (bz 16 1) (by kernel_rfl) ?_
              refine pst (i := 1) (N := some 53) (bz 16 3) (by kernel_rfl) ?_
              refine pst (i := 2) (N := some 54) (bz 16 7) (by kernel_rfl) ?_
              refine pst (i := 3) (N := some 55) (bz 16 15) (by kernel_rfl) ?_
              refine pst (i := 4) (N := some 56) (bz 16 31) (by kernel_rfl) ?_
              refine pst (i := 5) (N := some 57) (bz 16 63) (by kernel_rfl) ?_
              refine pst (i := 6) (N := some 58) (bz 16 127) (by kernel_rfl) ?_
              refine pst (i := 7) (N := some 59) (bz 16 255) (by kernel_rfl) ?_
              refine tst1 (i := 8) (N := some 60) (bz 16 511) (by kernel_rfl) hHeld ?_
              refine pst (i := 10) (N := some 62) (bz 16 1535) (by kernel_rfl) ?_
              refine pst (i := 11) (N := some 63) (bz 16 3583) (by kernel_rfl) ?_
              refine pst (i := 12) (N := some 64) (bz 16 7679) (by kernel_rfl) ?_
              refine one_ (i := 9) (N := some 61) #[true, true, true, true, true, true, true, true, true, true, true, true, true, false, false, false] rfl rfl (by kernel_rfl) (by decide) (fun K hK => ?_)
              refine Kd.N_lit_step (Kd.slice 3 (Kd.int .i64)) _ 25 ?hg (N' := 61) ?hd (xs := ([(rd_T87 t244 x10_1).f0] : List (List Int))) (inner := [.slice A248_0 ((rd_T87 t244 x10_1).f0).length c248_0]) (ok := (fun k_ => (P1_ k_ ∨ w.heap.size ≤ k_) ∧ some k_ ≠ (.slice (some ad248) t244.length co16 : Value).ownBlock ∧ k_ ≠ gb239)) (okp := (fun k_ => (P1_ k_ ∨ w.heap.size ≤ k_) ∧ some k_ ≠ (.slice (some ad248) t244.length co16 : Value).ownBlock ∧ k_ ≠ gb239)) ?hr ?hp (fun _ hk => hk) ((show ∀ k_, w14.heap.size ≤ k_ → (fun k_ => (P1_ k_ ∨ w.heap.size ≤ k_) ∧ some k_ ≠ (.slice (some ad248) t244.length co16 : Value).ownBlock ∧ k_ ≠ gb239) k_ from fun k_ hk => ⟨(.inr (Nat.le_trans (below_size HB.out) hk)), Kd.fresh' (Kd.N_lt HO_7.out) k_ hk, Kd.freshB (g := gb239) (o := .cells #[.int .i64 a0_0, .slice A0_1 l0_1.length c0_1] 24 (0, 0)) BK239.out k_ hk⟩) _ (Nat.le_refl _)) (Below.refl _ _) (Nat.le_refl _) (by simp) ?_; (case hd => rfl); (case hg => rfl); (case hr => first | (go_simp; done) | (go_simp; rfl)); (case hp => exact (Reps.one (show Kd.FK (Kd.slice 3 (Kd.int .i64)) _ _ ((rd_T87 t244 x10_1).f0) [.slice A248_0 ((rd_T87 t244 x10_1).f0).length c248_0] from (Kd.FK_slice_mk (Kd.V_reads' (Kd.V_mono (ok' := (fun k_ => (P1_ k_ ∨ w.heap.size ≤ k_) ∧ some k_ ≠ (.slice (some ad248) t244.length co16 : Value).ownBlock ∧ k_ ≠ gb239)) (HE.out) (fun k_ hk => ⟨hk.1.1, ⟨hk.2, hk.1.2.2⟩⟩))).2.1 (Kd.V_F (Kd.V_mono (ok' := (fun k_ => (P1_ k_ ∨ w.heap.size ≤ k_) ∧ some k_ ≠ (.slice (some ad248) t244.length co16 : Value).ownBlock ∧ k_ ≠ gb239)) (HE.out) (fun k_ hk => ⟨hk.1.1, ⟨hk.2, hk.1.2.2⟩⟩))))) (Reps.none _ _)))
              intro v61 w15 ho61 hb hg_ hnew_
              clear hg_ hnew_
              have HS1_ := (hb.cell (World.block_lt_of_cell? _ _ hHeld)).trans hHeld
              have n0_ := Aside0.mk (Kd.N_elder' HO_7.out (Kd.N_base ho61) hb)
              have n1_ := Aside0.mk (Kd.N_elder' HO_9.out (Kd.N_base ho61) hb)
              have n2_ := Aside0.mk (blk_below (g := gb239) BK239.out hb)
              have n3_ := Aside0.mk (below_step HB.out hb)
              have HO61 := Aside0.mk (Kd.N_lower ho61 (below_size HB.out))
              clear HO_7 HO_9 BK239 HB HE
              have HO_7 := n0_
              have HO_9 := n1_
              have BK239 := n2_
              have HB := n3_
              clear n0_ n1_ n2_ n3_ ho61
              refine hK.out _ _ HS1_ (fun hHeld => ?_)
              clear hK K HS1_ hb
              refine norm_ (a' := ?_) ?_ ?_
              rotate_left
              ·
               show Act.put _ (some 61) _ = _
               simp only [Act.put, List.setIfInBounds_toArray, List.set_cons_zero, List.set_cons_succ, i64_w, i32_w]
               rfl
              refine one_ (i := 13) (N := some 65) #[true, true, true, true, true, true, true, true, true, true, true, true, true, true, false, false] rfl rfl (by kernel_rfl) (by decide) (fun K hK => ?_)
              refine Kd.N_append_rows_step (Kd.slice 3 (Kd.int .i64)) (w0 := w) w.heap.size (by rfl) (.tmp 61) (.tmp 64) 31 25 (.slice none 0 0) 24 rfl Try.underlying31 info25 rfl (by decide) (by omega) v61 [(rd_T87 t244 x10_1).f0] (x9_1.drop k11) _ _ _ (fun k_ => (P1_ k_ ∨ w.heap.size ≤ k_) ∧ some k_ ≠ (.slice (some ad248) t244.length co16 : Value).ownBlock ∧ k_ ≠ gb239) (fun k_ => ((P1_ k_ ∨ w.heap.size ≤ k_) ∧ some k_ ≠ (.slice (some ad248) t244.length co16 : Value).ownBlock ∧ k_ ≠ gb239) ∧ some k_ ≠ v61.ownBlock) rfl rfl ?aO ?aR (fun _ hk => hk) ?aF ?aB ?aS ?aL ?_
              (case aR => exact (by have h1 := Kd.F_imp (d' := Kd.slice 3 (Kd.int .i64)) (A' := if co17 = k11 then some ⟨g9, 0, none⟩ else (some (⟨g9, 0, none⟩ : Addr)).map (·.add (k11 * (Kd.slice 3 (Kd.int .i64)).sz))) (n' := (x9_1.drop k11).length) (xs' := x9_1.drop k11) (Kd.N_F HO_9.out) (fun W' hC => Kd.C_drop (m := k11) (c := co17) hC HK9.out HCAP.out); rw [List.length_drop] at h1; simp only [Option.map_some, add_plain, show (Kd.slice 3 (Kd.int IntKind.i64)).sz = 1 from rfl, Nat.mul_one] at h1; exact h1))
              (case aB => exact HB.out)
              (case aF => exact (fun k_ hk => ⟨(.inr (Nat.le_trans (below_size HB.out) hk)), Kd.fresh' (Kd.N_lt HO_7.out) k_ hk, Kd.freshB (g := gb239) (o := .cells #[.int .i64 a0_0, .slice A0_1 l0_1.length c0_1] 24 (0, 0)) BK239.out k_ hk⟩))
              (case aO => exact HO61.out)
              (case aS => exact (below_size HB.out))
              (case aL => have := HLEN.out; simp; omega)
              intro v65 w16 ho65 hb hg hat
              have HS1_ : w16.cell? (ad248.add (x10_1.toNat * 2)) = some (.slice A248_0 ((rd_T87 t244 x10_1).f0).length c248_0) := Kd.N_keeps_cell HO_7.out (fun _ hk => hk.2) hg hHeld
              have n0_ := Aside0.mk (Kd.N_grown HO_7.out hg (fun _ hk => hk.2))
              have n1_ := Aside0.mk (Kd.N_grown HO_9.out hg (fun _ hk => hk.2))
              have n2_ := Aside0.mk (blk_grown (g := gb239) BK239.out hg (Kd.N_ne HO61.out BK239.out (by decide)))
              have n3_ := Aside0.mk hb
              have HO65 := Aside0.mk ho65
              obtain ⟨g65, c65, e65, _⟩ := Kd.N_form ho65 (by simp)
              subst e65
              clear HO_7 HO_9 BK239 HB HO61
              have HO_7 := n0_
              have HO_9 := n1_
              have BK239 := n2_
              have HB := n3_
              clear n0_ n1_ n2_ n3_ ho65 hb hat
              refine hK.out _ _ HS1_ (fun hHeld => ?_)
              clear hK K HS1_ hg
              refine norm_ (a' := ?_) ?_ ?_
              rotate_left
              ·
               show Act.put _ (some 65) _ = _
               simp only [Act.put, List.setIfInBounds_toArray, List.set_cons_zero, List.set_cons_succ, i64_w, i32_w]
               rfl
              refine one_ (i := 14) (N := some 66) #[true, true, true, true, true, true, true, true, true, true, true, true, true, true, true, false] rfl rfl (by kernel_rfl) (by decide) (fun K hK => ?_)
              refine Kd.N_grows_step (Kd.slice 3 (Kd.int .i64)) rfl rfl (.tmp 55) (.tmp 65) 31 25 (.slice none 0 0) 24 rfl Try.underlying31 info25 rfl (some ⟨g9, 0, none⟩) k11 (fun h => by cases h) (x9_1.take k11) ⟨g65, 0, none⟩ ([(rd_T87 t244 x10_1).f0] ++ x9_1.drop k11).length c65 ([(rd_T87 t244 x10_1).f0] ++ x9_1.drop k11) (fun k_ => (P1_ k_ ∨ w.heap.size ≤ k_) ∧ some k_ ≠ (.slice (some ad248) t244.length co16 : Value).ownBlock ∧ k_ ≠ gb239) (fun k_ => (P1_ k_ ∨ w.heap.size ≤ k_) ∧ some k_ ≠ (.slice (some ad248) t244.length co16 : Value).ownBlock ∧ k_ ≠ gb239) rfl rfl ?aX (Kd.N_F HO65.out) (by simp) (fun _ hk => hk) ?aF ?aL1 ?aL2 ?_
              (case aX => exact (by have h1 := Kd.F_imp (d' := Kd.slice 3 (Kd.int .i64)) (A' := some ⟨g9, 0, none⟩) (n' := (x9_1.take k11).length) (xs' := x9_1.take k11) (Kd.N_F (Kd.N_mono (ok' := (fun k_ => (P1_ k_ ∨ w.heap.size ≤ k_) ∧ some k_ ≠ (.slice (some ad248) t244.length co16 : Value).ownBlock ∧ k_ ≠ gb239)) HO_9.out (fun _ hk => hk.1))) (fun W' hC => Kd.C_take (m := k11) hC HK9.out); rw [show (x9_1.take k11).length = k11 by rw [List.length_take]; have := HK9.out; omega] at h1; exact h1))
              (case aF => exact (fun k_ hk => ⟨(.inr (Nat.le_trans (below_size HB.out) hk)), Kd.fresh' (Kd.N_lt HO_7.out) k_ hk, Kd.freshB (g := gb239) (o := .cells #[.int .i64 a0_0, .slice A0_1 l0_1.length c0_1] 24 (0, 0)) BK239.out k_ hk⟩))
              (case aL1 => have := HLEN.out; have := HK9.out; simp [maxLen]; omega)
              (case aL2 => have := HLEN.out; have := HK9.out; simp; omega)
              intro v66 w17 ho66 hg
              have hb : Below w16.heap.size w16 w17 := (Below.refl _ _).grown hg (Nat.le_refl _) (fun j hj => by cases hj)
              have HS1_ := (hb.cell (World.block_lt_of_cell? _ _ hHeld)).trans hHeld
              have n0_ := Aside0.mk (Kd.N_mono (ok' := (fun k_ => (P1_ k_ ∨ w.heap.size ≤ k_) ∧ some k_ ≠ v66.ownBlock ∧ k_ ≠ gb239)) (Kd.N_elder' HO_7.out (Kd.N_base ho66) hb) (fun k_ hk => ⟨hk.1.1.1, hk.2, hk.1.1.2.2⟩))
              have n1_ := Aside0.mk (show Kd.N (Kd.slice 3 (Kd.int .i64)) 25 w17 w.heap.size (fun k_ => (P1_ k_ ∨ w.heap.size ≤ k_) ∧ some k_ ≠ (.slice (some ad248) t244.length co16 : Value).ownBlock ∧ k_ ≠ gb239) v66 (x9_1.take ((k11 : Int)).toNat ++ (rd_T87 t244 x10_1).f0 :: x9_1.drop ((k11 : Int)).toNat) from Kd.N_lower ho66 (below_size HB.out))
              have n2_ := Aside0.mk (blk_below (g := gb239) BK239.out hb)
              have n3_ := Aside0.mk (below_step HB.out hb)
              clear HO_7 HO_9 BK239 HB HO65
              have HO_7 := n0_
              have HO_9 := n1_
              have BK239 := n2_
              have HB := n3_
              clear n0_ n1_ n2_ n3_ ho66
              refine hK.out _ _ HS1_ (fun hHeld => ?_)
              clear hK K HS1_ hb hg
              refine norm_ (a' := ?_) ?_ ?_
              rotate_left
              ·
               show Act.put _ (some 66) _ = _
               simp only [Act.put, List.setIfInBounds_toArray, List.set_cons_zero, List.set_cons_succ, i64_w, i32_w]
               rfl
              refine pst (i := 15) (N := some 9) (bz 16 65535) (by kernel_rfl) ?_
              refine done_ (by kernel_rfl) ?_
              clear hHeld
              go_wp2
              all_goals
               go_roundg k2
               case measure => have := HK1.out; have := HK2.out; omega
               case rel => exact ⟨_, (wrap64 (x10_1 + 1)), rsz, H', ⟨by have := HK1.out; have := HK2.out; omega⟩, ⟨by (with_reducible repeat (first | apply Kd.N_alloc | apply Kd.N_drewN | apply Kd.N_drew)); exact HO_7.out⟩, ⟨by (with_reducible repeat (first | apply Kd.N_alloc | apply Kd.N_drewN | apply Kd.N_drew)); exact HO_9.out⟩, ⟨blkz⟩, ⟨bel⟩⟩
            ·
             rw [if_neg c23] at H
             exact absurd H (by simp)
           ·
            rw [if_neg c22] at H
            exact absurd H (by simp)
          ·
           rw [if_neg c20] at H
           exact absurd H (by simp)
         ·
          rw [if_neg c19] at H
          exact absurd H (by simp)
        ·
         rw [if_neg c18] at H
         have c18b0 : decide (0 < x11_2) = false := decide_eq_false c18
         clear c18
         by_cases c31 : 0 ≤ x10_1
         ·
          rw [if_pos c31] at H
          have c31b0 : decide (0 ≤ x10_1) = true := decide_eq_true c31
          clear c31
          by_cases c32 : x10_1 < (t244.length : Int)
          ·
           rw [if_pos c32] at H
           have c32b0 : decide (x10_1 < (t244.length : Int)) = true := decide_eq_true c32
           clear c32
           by_cases c26 : ¬ (0 ≤ x11_2 ∧ x11_2 ≤ (x9_1.length : Int) ∧ x9_1.length < 100000)
           ·
            rw [if_neg c26] at H; exact absurd H (by simp)
           replace c26 := Decidable.not_not.1 c26
           rw [if_pos c26] at H
           have C26 := Aside0.mk c26
           have d26 := eq_true c26.1
           have d26b := eq_true c26.2.1
           clear c26
           have H' := Aside0.mk H
           clear H
           have p258 : 0 ≤ (x10_1 : Int) := of_decide_eq_true asz
           have q258 : x10_1 < (t244.length : Int) := of_decide_eq_true asz
           obtain ⟨ad258, A258_0, c258_0, A258_1, c258_1, e258, hx258_0, hx258_1, hl258_0, hi258_0, hl258_1, hi258_1⟩ := at_T87 (Kd.N_reads' HO_7.out).2.2 x10_1 p258 q258
           cases e258
           obtain ⟨ce258, hce258, hMe258, hcc258⟩ := Kd.N_get HO_7.out z87 x10_1 p258 (by first | exact q258 | exact of_decide_eq_true asz | (have e_ := (Kd.N_reads' HO_7.out).1; omega))
           obtain ⟨ua258_0, uc258_0, ua258_1, uc258_1, rfl, ul258_0, ge258_0, ul258_1, ge258_1⟩ := k87_openF hMe258
           have hv258_0 := hcc258 0 _ rfl
           rw [Nat.add_zero] at hv258_0
           replace hv258_0 := Option.some.inj (hv258_0.symm.trans hx258_0)
           injection hv258_0 with hva_ hvn_ hvc_
           rw [hva_] at ge258_0
           rw [hvc_] at ul258_0
           have HL258_0 := Aside0.mk (show Kd.V (Kd.int .i64) 3 _ w.heap.size _ _ ((rd_T87 t244 x10_1).f0) from Kd.V_mk ul258_0 ge258_0)
           clear hva_ hvn_ hvc_ ge258_0 ul258_0
           have hv258_1 := hcc258 1 _ rfl
           rw [add_field _ _ 1 (by omega)] at hv258_1
           replace hv258_1 := Option.some.inj (hv258_1.symm.trans hx258_1)
           injection hv258_1 with hva_ hvn_ hvc_
           rw [hva_] at ge258_1
           rw [hvc_] at ul258_1
           have HL258_1 := Aside0.mk (show Kd.V (Kd.int .i64) 3 _ w.heap.size _ _ ((rd_T87 t244 x10_1).f1) from Kd.V_mk ul258_1 ge258_1)
           clear hva_ hvn_ hvc_ ge258_1 ul258_1
           clear hcc258 hce258
           have HR258_0 := Aside0.mk hi258_0
           have HC258_0 := Aside0.mk hl258_0
           clear hi258_0 hl258_0
           have HR258_1 := Aside0.mk hi258_1
           have HC258_1 := Aside0.mk hl258_1
           clear hi258_1 hl258_1
           replace p258 := eq_true p258
           replace q258 := eq_true q258
           go_wp2
           go_quiet (fail)
           try go_wp2
           rcases Ao17 with _ | ad17
           ·
            skip
            obtain ⟨k11, hk11⟩ : ∃ k : Nat, x11_2 = (k : Int) := ⟨x11_2.toNat, by have := C26.out; omega⟩
            subst hk11
            have HZ9 : Aside0 (x9_1.length = 0) := ⟨by rw [(Kd.N_nil_of HO_9.out).1]; rfl⟩
            have hcap : x9_1.length ≤ co17 := (Kd.N_reads' HO_9.out).2.1
            have hk9 : k11 ≤ x9_1.length := by have := C26.out; omega
            have z0 : (0 : Int) ≤ (k11 : Int) := by omega
            have z1 : (k11 : Int) ≤ (x9_1.length : Int) := by omega
            have z2 : (k11 : Int) ≤ (co17 : Int) := by omega
            have z3 : (x9_1.length : Int) ≤ (co17 : Int) := by omega
            have HLEN : Aside0 (x9_1.length < 100000) := ⟨C26.out.2.2⟩
            have HK9 := Aside0.mk hk9
            have HCAP := Aside0.mk hcap
            replace HO_7 := Aside0.mk (Kd.N_drew (Kd.N_drewN HO_7.out nq))
            replace HO_9 := Aside0.mk (Kd.N_drew (Kd.N_drewN HO_9.out nq))
            replace BK239 := Aside0.mk (blk_drew (blk_drewN BK239.out nq))
            replace HB := Aside0.mk (below_drew1 (pw_below_drewN HB.out nq))
            have HE := Aside0.mk (Kd.V_drew (Kd.V_drewN HL258_0.out nq))
            have hx0 : ((wr.drewN nq).drew).cell? (ad258.add (x10_1.toNat * 2)) = some (.slice A258_0 ((rd_T87 t244 x10_1).f0).length c258_0) := hx258_0
            refine start_ (n := 16) (S := fun w' => w'.cell? (ad258.add (x10_1.toNat * 2)) = some (.slice A258_0 ((rd_T87 t244 x10_1).f0).length c258_0)) (ds := []) #[false, false, false, false, false, false, false, false, false, false, false, false, false, false, false, false] (by kernel_rfl) rfl rfl hx0 (fun hHeld => ?_)
            clear hx0
            generalize (wr.drewN nq).drew = w14 at HO_7 HO_9 BK239 HB HE hHeld ⊢
            refine pst (i := 0) (N := some 52) (bz 16 1) (by kernel_rfl) ?_
            refine pst (i := 1) (N := some 53) (bz 16 3) (by kernel_rfl) ?_
            refine pst (i := 2) (N := some 54) (bz 16 7) (by kernel_rfl) ?_
            refine pst (i := 3) (N := some 55) (bz 16 15) (by kernel_rfl) ?_
            refine pst (i := 4) (N := some 56) (bz 16 31) (by kernel_rfl) ?_
            refine pst (i := 5) (N := some 57) (bz 16 63) (by kernel_rfl) ?_
            refine pst (i := 6) (N := some 58) (bz 16 127) (by kernel_rfl) ?_
            refine pst (i := 7) (N := some 59) (bz 16 255) (by kernel_rfl) ?_
            refine tst1 (i := 8) (N := some 60) (bz 16 511) (by kernel_rfl) hHeld ?_
            refine pst (i := 10) (N := some 62) (bz 16 1535) (by kernel_rfl) ?_
            refine pst (i := 11) (N := some 63) (bz 16 3583) (by kernel_rfl) ?_
            refine pst (i := 12) (N := some 64) (bz 16 7679) (by kernel_rfl) ?_
            refine one_ (i := 9) (N := some 61) #[true, true, true, true, true, true, true, true, true, true, true, true, true, false, false, false] rfl rfl (by kernel_rfl) (by decide) (fun K hK => ?_)
            refine Kd.N_lit_step (Kd.slice 3 (Kd.int .i64)) _ 25 ?hg (N' := 61) ?hd (xs := ([(rd_T87 t244 x10_1).f0] : List (List Int))) (inner := [.slice A258_0 ((rd_T87 t244 x10_1).f0).length c258_0]) (ok := (fun k_ => (P1_ k_ ∨ w.heap.size ≤ k_) ∧ some k_ ≠ (.slice (some ad258) t244.length co16 : Value).ownBlock ∧ k_ ≠ gb239)) (okp := (fun k_ => (P1_ k_ ∨ w.heap.size ≤ k_) ∧ some k_ ≠ (.slice (some ad258) t244.length co16 : Value).ownBlock ∧ k_ ≠ gb239)) ?hr ?hp (fun _ hk => hk) ((show ∀ k_, w14.heap.size ≤ k_ → (fun k_ => (P1_ k_ ∨ w.heap.size ≤ k_) ∧ some k_ ≠ (.slice (some ad258) t244.length co16 : Value).ownBlock ∧ k_ ≠ gb239) k_ from fun k_ hk => ⟨(.inr (Nat.le_trans (below_size HB.out) hk)), Kd.fresh' (Kd.N_lt HO_7.out) k_ hk, Kd.freshB (g := gb239) (o := .cells #[.int .i64 a0_0, .slice A0_1 l0_1.length c0_1] 24 (0, 0)) BK239.out k_ hk⟩) _ (Nat.le_refl _)) (Below.refl _ _) (Nat.le_refl _) (by simp) ?_; (case hd => rfl); (case hg => rfl); (case hr => first | (go_simp; done) | (go_simp; rfl)); (case hp => exact (Reps.one (show Kd.FK (Kd.slice 3 (Kd.int .i64)) _ _ ((rd_T87 t244 x10_1).f0) [.slice A258_0 ((rd_T87 t244 x10_1).f0).length c258_0] from (Kd.FK_slice_mk (Kd.V_reads' (Kd.V_mono (ok' := (fun k_ => (P1_ k_ ∨ w.heap.size ≤ k_) ∧ some k_ ≠ (.slice (some ad258) t244.length co16 : Value).ownBlock ∧ k_ ≠ gb239)) (HE.out) (fun k_ hk => ⟨hk.1.1, ⟨hk.2, hk.1.2.2⟩⟩))).2.1 (Kd.V_F (Kd.V_mono (ok' := (fun k_ => (P1_ k_ ∨ w.heap.size ≤ k_) ∧ some k_ ≠ (.slice (some ad258) t244.length co16 : Value).ownBlock ∧ k_ ≠ gb239)) (HE.out) (fun k_ hk => ⟨hk.1.1, ⟨hk.2, hk.1.2.2⟩⟩))))) (Reps.none _ _)))
            intro v61 w15 ho61 hb hg_ hnew_
            clear hg_ hnew_
            have HS1_ := (hb.cell (World.block_lt_of_cell? _ _ hHeld)).trans hHeld
            have n0_ := Aside0.mk (Kd.N_elder' HO_7.out (Kd.N_base ho61) hb)
            have n1_ := Aside0.mk (Kd.N_elder' HO_9.out (Kd.N_base ho61) hb)
            have n2_ := Aside0.mk (blk_below (g := gb239) BK239.out hb)
            have n3_ := Aside0.mk (below_step HB.out hb)
            have HO61 := Aside0.mk (Kd.N_lower ho61 (below_size HB.out))
            clear HO_7 HO_9 BK239 HB HE
            have HO_7 := n0_
            have HO_9 := n1_
            have BK239 := n2_
            have HB := n3_
            clear n0_ n1_ n2_ n3_ ho61
            refine hK.out _ _ HS1_ (fun hHeld => ?_)
            clear hK K HS1_ hb
            refine norm_ (a' := ?_) ?_ ?_
            rotate_left
            ·
             show Act.put _ (some 61) _ = _
             simp only [Act.put, List.setIfInBounds_toArray, List.set_cons_zero, List.set_cons_succ, i64_w, i32_w]
             rfl
            refine one_ (i := 13) (N := some 65) #[true, true, true, true, true, true, true, true, true, true, true, true, true, true, false, false] rfl rfl (by kernel_rfl) (by decide) (fun K hK => ?_)
            refine Kd.N_append_rows_step (Kd.slice 3 (Kd.int .i64)) (w0 := w) w.heap.size (by rfl) (.tmp 61) (.tmp 64) 31 25 (.slice none 0 0) 24 rfl Try.underlying31 info25 rfl (by decide) (by omega) v61 [(rd_T87 t244 x10_1).f0] (x9_1.drop k11) _ _ _ (fun k_ => (P1_ k_ ∨ w.heap.size ≤ k_) ∧ some k_ ≠ (.slice (some ad258) t244.length co16 : Value).ownBlock ∧ k_ ≠ gb239) (fun k_ => ((P1_ k_ ∨ w.heap.size ≤ k_) ∧ some k_ ≠ (.slice (some ad258) t244.length co16 : Value).ownBlock ∧ k_ ≠ gb239) ∧ some k_ ≠ v61.ownBlock) rfl rfl ?aO ?aR (fun _ hk => hk) ?aF ?aB ?aS ?aL ?_
            (case aR => exact (by have h1 := Kd.F_imp (d' := Kd.slice 3 (Kd.int .i64)) (A' := if co17 = k11 then none else (none : Option Addr).map (·.add (k11 * (Kd.slice 3 (Kd.int .i64)).sz))) (n' := (x9_1.drop k11).length) (xs' := x9_1.drop k11) (Kd.N_F HO_9.out) (fun W' hC => Kd.C_drop (m := k11) (c := co17) hC HK9.out HCAP.out); rw [List.length_drop] at h1; simp only [Option.map_none, ite_self, add_plain, show (Kd.slice 3 (Kd.int IntKind.i64)).sz = 1 from rfl, Nat.mul_one] at h1; exact h1))
            (case aB => exact HB.out)
            (case aF => exact (fun k_ hk => ⟨(.inr (Nat.le_trans (below_size HB.out) hk)), Kd.fresh' (Kd.N_lt HO_7.out) k_ hk, Kd.freshB (g := gb239) (o := .cells #[.int .i64 a0_0, .slice A0_1 l0_1.length c0_1] 24 (0, 0)) BK239.out k_ hk⟩))
            (case aO => exact HO61.out)
            (case aS => exact (below_size HB.out))
            (case aL => have := HLEN.out; simp; omega)
            intro v65 w16 ho65 hb hg hat
            have HS1_ : w16.cell? (ad258.add (x10_1.toNat * 2)) = some (.slice A258_0 ((rd_T87 t244 x10_1).f0).length c258_0) := Kd.N_keeps_cell HO_7.out (fun _ hk => hk.2) hg hHeld
            have n0_ := Aside0.mk (Kd.N_grown HO_7.out hg (fun _ hk => hk.2))
            have n1_ := Aside0.mk (Kd.N_grown HO_9.out hg (fun _ hk => hk.2))
            have n2_ := Aside0.mk (blk_grown (g := gb239) BK239.out hg (Kd.N_ne HO61.out BK239.out (by decide)))
            have n3_ := Aside0.mk hb
            have HO65 := Aside0.mk ho65
            obtain ⟨g65, c65, e65, _⟩ := Kd.N_form ho65 (by simp)
            subst e65
            clear HO_7 HO_9 BK239 HB HO61
            have HO_7 := n0_
            have HO_9 := n1_
            have BK239 := n2_
            have HB := n3_
            clear n0_ n1_ n2_ n3_ ho65 hb hat
            refine hK.out _ _ HS1_ (fun hHeld => ?_)
            clear hK K HS1_ hg
            refine norm_ (a' := ?_) ?_ ?_
            rotate_left
            ·
             show Act.put _ (some 65) _ = _
             simp only [Act.put, List.setIfInBounds_toArray, List.set_cons_zero, List.set_cons_succ, i64_w, i32_w]
             rfl
            refine one_ (i := 14) (N := some 66) #[true, true, true, true, true, true, true, true, true, true, true, true, true, true, true, false] rfl rfl (by kernel_rfl) (by decide) (fun K hK => ?_)
            refine Kd.N_grows_step (Kd.slice 3 (Kd.int .i64)) rfl rfl (.tmp 55) (.tmp 65) 31 25 (.slice none 0 0) 24 rfl Try.underlying31 info25 rfl none k11 (fun _ => by have := HK9.out; have := HZ9.out; omega) (x9_1.take k11) ⟨g65, 0, none⟩ ([(rd_T87 t244 x10_1).f0] ++ x9_1.drop k11).length c65 ([(rd_T87 t244 x10_1).f0] ++ x9_1.drop k11) (fun k_ => (P1_ k_ ∨ w.heap.size ≤ k_) ∧ some k_ ≠ (.slice (some ad258) t244.length co16 : Value).ownBlock ∧ k_ ≠ gb239) (fun k_ => (P1_ k_ ∨ w.heap.size ≤ k_) ∧ some k_ ≠ (.slice (some ad258) t244.length co16 : Value).ownBlock ∧ k_ ≠ gb239) rfl rfl ?aX (Kd.N_F HO65.out) (by simp) (fun _ hk => hk) ?aF ?aL1 ?aL2 ?_
            (case aX => exact (by have h1 := Kd.F_imp (d' := Kd.slice 3 (Kd.int .i64)) (A' := none) (n' := (x9_1.take k11).length) (xs' := x9_1.take k11) (Kd.N_F (Kd.N_mono (ok' := (fun k_ => (P1_ k_ ∨ w.heap.size ≤ k_) ∧ some k_ ≠ (.slice (some ad258) t244.length co16 : Value).ownBlock ∧ k_ ≠ gb239)) HO_9.out (fun _ hk => hk.1))) (fun W' hC => Kd.C_take (m := k11) hC HK9.out); rw [show (x9_1.take k11).length = k11 by rw [List.length_take]; have := HK9.out; omega] at h1; exact h1))
            (case aF => exact (fun k_ hk => ⟨(.inr (Nat.le_trans (below_size HB.out) hk)), Kd.fresh' (Kd.N_lt HO_7.out) k_ hk, Kd.freshB (g := gb239) (o := .cells #[.int .i64 a0_0, .slice A0_1 l0_1.length c0_1] 24 (0, 0)) BK239.out k_ hk⟩))
            (case aL1 => have := HLEN.out; have := HK9.out; simp [maxLen]; omega)
            (case aL2 => have := HLEN.out; have := HK9.out; simp; omega)
            intro v66 w17 ho66 hg
            have hb : Below w16.heap.size w16 w17 := (Below.refl _ _).grown hg (Nat.le_refl _) (fun j hj => by cases hj)
            have HS1_ := (hb.cell (World.block_lt_of_cell? _ _ hHeld)).trans hHeld
            have n0_ := Aside0.mk (Kd.N_mono (ok' := (fun k_ => (P1_ k_ ∨ w.heap.size ≤ k_) ∧ some k_ ≠ v66.ownBlock ∧ k_ ≠ gb239)) (Kd.N_elder' HO_7.out (Kd.N_base ho66) hb) (fun k_ hk => ⟨hk.1.1.1, hk.2, hk.1.1.2.2⟩))
            have n1_ := Aside0.mk (show Kd.N (Kd.slice 3 (Kd.int .i64)) 25 w17 w.heap.size (fun k_ => (P1_ k_ ∨ w.heap.size ≤ k_) ∧ some k_ ≠ (.slice (some ad258) t244.length co16 : Value).ownBlock ∧ k_ ≠ gb239) v66 (x9_1.take ((k11 : Int)).toNat ++ (rd_T87 t244 x10_1).f0 :: x9_1.drop ((k11 : Int)).toNat) from Kd.N_lower ho66 (below_size HB.out))
            have n2_ := Aside0.mk (blk_below (g := gb239) BK239.out hb)
            have n3_ := Aside0.mk (below_step HB.out hb)
            clear HO_7 HO_9 BK239 HB HO65
            have HO_7 := n0_
            have HO_9 := n1_
            have BK239 := n2_
            have HB := n3_
            clear n0_ n1_ n2_ n3_ ho66
            refine hK.out _ _ HS1_ (fun hHeld => ?_)
            clear hK K HS1_ hb hg
            refine norm_ (a' := ?_) ?_ ?_
            rotate_left
            ·
             show Act.put _ (some 66) _ = _
             simp only [Act.put, List.setIfInBounds_toArray, List.set_cons_zero, List.set_cons_succ, i64_w, i32_w]
             rfl
            refine pst (i := 15) (N := some 9) (bz 16 65535) (by kernel_rfl) ?_
            refine done_ (by kernel_rfl) ?_
            clear hHeld
            go_wp2
            all_goals
             go_roundg k2
             case measure => have := HK1.out; have := HK2.out; omega
             case rel => exact ⟨_, (wrap64 (x10_1 + 1)), rsz, H', ⟨by have := HK1.out; have := HK2.out; omega⟩, ⟨by (with_reducible repeat (first | apply Kd.N_alloc | apply Kd.N_drewN | apply Kd.N_drew)); exact HO_7.out⟩, ⟨by (with_reducible repeat (first | apply Kd.N_alloc | apply Kd.N_drewN | apply Kd.N_drew)); exact HO_9.out⟩, ⟨blkz⟩, ⟨bel⟩⟩
           ·
            skip
            obtain ⟨k11, hk11⟩ : ∃ k : Nat, x11_2 = (k : Int) := ⟨x11_2.toNat, by have := C26.out; omega⟩
            subst hk11
            obtain ⟨g9, rfl⟩ := Kd.N_head HO_9.out
            have hcap : x9_1.length ≤ co17 := (Kd.N_reads' HO_9.out).2.1
            have hk9 : k11 ≤ x9_1.length := by have := C26.out; omega
            have z0 : (0 : Int) ≤ (k11 : Int) := by omega
            have z1 : (k11 : Int) ≤ (x9_1.length : Int) := by omega
            have z2 : (k11 : Int) ≤ (co17 : Int) := by omega
            have z3 : (x9_1.length : Int) ≤ (co17 : Int) := by omega
            have HLEN : Aside0 (x9_1.length < 100000) := ⟨C26.out.2.2⟩
            have HK9 := Aside0.mk hk9
            have HCAP := Aside0.mk hcap
            replace HO_7 := Aside0.mk (Kd.N_drew (Kd.N_drewN HO_7.out nq))
            replace HO_9 := Aside0.mk (Kd.N_drew (Kd.N_drewN HO_9.out nq))
            replace BK239 := Aside0.mk (blk_drew (blk_drewN BK239.out nq))
            replace HB := Aside0.mk (below_drew1 (pw_below_drewN HB.out nq))
            have HE := Aside0.mk (Kd.V_drew (Kd.V_drewN HL258_0.out nq))
            have hx0 : ((wr.drewN nq).drew).cell? (ad258.add (x10_1.toNat * 2)) = some (.slice A258_0 ((rd_T87 t244 x10_1).f0).length c258_0) := hx258_0
            refine start_ (n := 16) (S := fun w' => w'.cell? (ad258.add (x10_1.toNat * 2)) = some (.slice A258_0 ((rd_T87 t244 x10_1).f0).length c258_0)) (ds := []) #[false, false, false, false, false, false, false, false, false, false, false, false, false, false, false, false] (by kernel_rfl) rfl rfl hx0 (fun hHeld => ?_)
            clear hx0
            generalize (wr.drewN nq).drew = w14 at HO_7 HO_9 BK239 HB HE hHeld ⊢
            refine pst (i := 0) (N := some 52) (bz 16 1) (by kernel_rfl) ?_
            refine pst (i := 1) (N := some 53) (bz 16 3) (by kernel_rfl) ?_
            refine pst (i := 2) (N := some 54) (bz 16 7) (by kernel_rfl) ?_
            refine pst (i := 3) (N := some 55) (bz 16 15) (by kernel_rfl) ?_
            refine pst (i := 4) (N := some 56) (bz 16 31) (by kernel_rfl) ?_
            refine pst (i := 5) (N := some 57) (bz 16 63) (by kernel_rfl) ?_
            refine pst (i := 6) (N := some 58) (bz 16 127) (by kernel_rfl) ?_
            refine pst (i := 7) (N := some 59) (bz 16 255) (by kernel_rfl) ?_
            refine tst1 (i := 8) (N := some 60) (bz 16 511) (by kernel_rfl) hHeld ?_
            refine pst (i := 10) (N := some 62) (bz 16 1535) (by kernel_rfl) ?_
            refine pst (i := 11) (N := some 63) (bz 16 3583) (by kernel_rfl) ?_
            refine pst (i := 12) (N := some 64) (bz 16 7679) (by kernel_rfl) ?_
            refine one_ (i := 9) (N := some 61) #[true, true, true, true, true, true, true, true, true, true, true, true, true, false, false, false] rfl rfl (by kernel_rfl) (by decide) (fun K hK => ?_)
            refine Kd.N_lit_step (Kd.slice 3 (Kd.int .i64)) _ 25 ?hg (N' := 61) ?hd (xs := ([(rd_T87 t244 x10_1).f0] : List (List Int))) (inner := [.slice A258_0 ((rd_T87 t244 x10_1).f0).length c258_0]) (ok := (fun k_ => (P1_ k_ ∨ w.heap.size ≤ k_) ∧ some k_ ≠ (.slice (some ad258) t244.length co16 : Value).ownBlock ∧ k_ ≠ gb239)) (okp := (fun k_ => (P1_ k_ ∨ w.heap.size ≤ k_) ∧ some k_ ≠ (.slice (some ad258) t244.length co16 : Value).ownBlock ∧ k_ ≠ gb239)) ?hr ?hp (fun _ hk => hk) ((show ∀ k_, w14.heap.size ≤ k_ → (fun k_ => (P1_ k_ ∨ w.heap.size ≤ k_) ∧ some k_ ≠ (.slice (some ad258) t244.length co16 : Value).ownBlock ∧ k_ ≠ gb239) k_ from fun k_ hk => ⟨(.inr (Nat.le_trans (below_size HB.out) hk)), Kd.fresh' (Kd.N_lt HO_7.out) k_ hk, Kd.freshB (g := gb239) (o := .cells #[.int .i64 a0_0, .slice A0_1 l0_1.length c0_1] 24 (0, 0)) BK239.out k_ hk⟩) _ (Nat.le_refl _)) (Below.refl _ _) (Nat.le_refl _) (by simp) ?_; (case hd => rfl); (case hg => rfl); (case hr => first | (go_simp; done) | (go_simp; rfl)); (case hp => exact (Reps.one (show Kd.FK (Kd.slice 3 (Kd.int .i64)) _ _ ((rd_T87 t244 x10_1).f0) [.slice A258_0 ((rd_T87 t244 x10_1).f0).length c258_0] from (Kd.FK_slice_mk (Kd.V_reads' (Kd.V_mono (ok' := (fun k_ => (P1_ k_ ∨ w.heap.size ≤ k_) ∧ some k_ ≠ (.slice (some ad258) t244.length co16 : Value).ownBlock ∧ k_ ≠ gb239)) (HE.out) (fun k_ hk => ⟨hk.1.1, ⟨hk.2, hk.1.2.2⟩⟩))).2.1 (Kd.V_F (Kd.V_mono (ok' := (fun k_ => (P1_ k_ ∨ w.heap.size ≤ k_) ∧ some k_ ≠ (.slice (some ad258) t244.length co16 : Value).ownBlock ∧ k_ ≠ gb239)) (HE.out) (fun k_ hk => ⟨hk.1.1, ⟨hk.2, hk.1.2.2⟩⟩))))) (Reps.none _ _)))
            intro v61 w15 ho61 hb hg_ hnew_
            clear hg_ hnew_
            have HS1_ := (hb.cell (World.block_lt_of_cell? _ _ hHeld)).trans hHeld
            have n0_ := Aside0.mk (Kd.N_elder' HO_7.out (Kd.N_base ho61) hb)
            have n1_ := Aside0.mk (Kd.N_elder' HO_9.out (Kd.N_base ho61) hb)
            have n2_ := Aside0.mk (blk_below (g := gb239) BK239.out hb)
            have n3_ := Aside0.mk (below_step HB.out hb)
            have HO61 := Aside0.mk (Kd.N_lower ho61 (below_size HB.out))
            clear HO_7 HO_9 BK239 HB HE
            have HO_7 := n0_
            have HO_9 := n1_
            have BK239 := n2_
            have HB := n3_
            clear n0_ n1_ n2_ n3_ ho61
            refine hK.out _ _ HS1_ (fun hHeld => ?_)
            clear hK K HS1_ hb
            refine norm_ (a' := ?_) ?_ ?_
            rotate_left
            ·
             show Act.put _ (some 61) _ = _
             simp only [Act.put, List.setIfInBounds_toArray, List.set_cons_zero, List.set_cons_succ, i64_w, i32_w]
             rfl
            refine one_ (i := 13) (N := some 65) #[true, true, true, true, true, true, true, true, true, true, true, true, true, true, false, false] rfl rfl (by kernel_rfl) (by decide) (fun K hK => ?_)
            refine Kd.N_append_rows_step (Kd.slice 3 (Kd.int .i64)) (w0 := w) w.heap.size (by rfl) (.tmp 61) (.tmp 64) 31 25 (.slice none 0 0) 24 rfl Try.underlying31 info25 rfl (by decide) (by omega) v61 [(rd_T87 t244 x10_1).f0] (x9_1.drop k11) _ _ _ (fun k_ => (P1_ k_ ∨ w.heap.size ≤ k_) ∧ some k_ ≠ (.slice (some ad258) t244.length co16 : Value).ownBlock ∧ k_ ≠ gb239) (fun k_ => ((P1_ k_ ∨ w.heap.size ≤ k_) ∧ some k_ ≠ (.slice (some ad258) t244.length co16 : Value).ownBlock ∧ k_ ≠ gb239) ∧ some k_ ≠ v61.ownBlock) rfl rfl ?aO ?aR (fun _ hk => hk) ?aF ?aB ?aS ?aL ?_
            (case aR => exact (by have h1 := Kd.F_imp (d' := Kd.slice 3 (Kd.int .i64)) (A' := if co17 = k11 then some ⟨g9, 0, none⟩ else (some (⟨g9, 0, none⟩ : Addr)).map (·.add (k11 * (Kd.slice 3 (Kd.int .i64)).sz))) (n' := (x9_1.drop k11).length) (xs' := x9_1.drop k11) (Kd.N_F HO_9.out) (fun W' hC => Kd.C_drop (m := k11) (c := co17) hC HK9.out HCAP.out); rw [List.length_drop] at h1; simp only [Option.map_some, add_plain, show (Kd.slice 3 (Kd.int IntKind.i64)).sz = 1 from rfl, Nat.mul_one] at h1; exact h1))
            (case aB => exact HB.out)
            (case aF => exact (fun k_ hk => ⟨(.inr (Nat.le_trans (below_size HB.out) hk)), Kd.fresh' (Kd.N_lt HO_7.out) k_ hk, Kd.freshB (g := gb239) (o := .cells #[.int .i64 a0_0, .slice A0_1 l0_1.length c0_1] 24 (0, 0)) BK239.out k_ hk⟩))
            (case aO => exact HO61.out)
            (case aS => exact (below_size HB.out))
            (case aL => have := HLEN.out; simp; omega)
            intro v65 w16 ho65 hb hg hat
            have HS1_ : w16.cell? (ad258.add (x10_1.toNat * 2)) = some (.slice A258_0 ((rd_T87 t244 x10_1).f0).length c258_0) := Kd.N_keeps_cell HO_7.out (fun _ hk => hk.2) hg hHeld
            have n0_ := Aside0.mk (Kd.N_grown HO_7.out hg (fun _ hk => hk.2))
            have n1_ := Aside0.mk (Kd.N_grown HO_9.out hg (fun _ hk => hk.2))
            have n2_ := Aside0.mk (blk_grown (g := gb239) BK239.out hg (Kd.N_ne HO61.out BK239.out (by decide)))
            have n3_ := Aside0.mk hb
            have HO65 := Aside0.mk ho65
            obtain ⟨g65, c65, e65, _⟩ := Kd.N_form ho65 (by simp)
            subst e65
            clear HO_7 HO_9 BK239 HB HO61
            have HO_7 := n0_
            have HO_9 := n1_
            have BK239 := n2_
            have HB := n3_
            clear n0_ n1_ n2_ n3_ ho65 hb hat
            refine hK.out _ _ HS1_ (fun hHeld => ?_)
            clear hK K HS1_ hg
            refine norm_ (a' := ?_) ?_ ?_
            rotate_left
            ·
             show Act.put _ (some 65) _ = _
             simp only [Act.put, List.setIfInBounds_toArray, List.set_cons_zero, List.set_cons_succ, i64_w, i32_w]
             rfl
            refine one_ (i := 14) (N := some 66) #[true, true, true, true, true, true, true, true, true, true, true, true, true, true, true, false] rfl rfl (by kernel_rfl) (by decide) (fun K hK => ?_)
            refine Kd.N_grows_step (Kd.slice 3 (Kd.int .i64)) rfl rfl (.tmp 55) (.tmp 65) 31 25 (.slice none 0 0) 24 rfl Try.underlying31 info25 rfl (some ⟨g9, 0, none⟩) k11 (fun h => by cases h) (x9_1.take k11) ⟨g65, 0, none⟩ ([(rd_T87 t244 x10_1).f0] ++ x9_1.drop k11).length c65 ([(rd_T87 t244 x10_1).f0] ++ x9_1.drop k11) (fun k_ => (P1_ k_ ∨ w.heap.size ≤ k_) ∧ some k_ ≠ (.slice (some ad258) t244.length co16 : Value).ownBlock ∧ k_ ≠ gb239) (fun k_ => (P1_ k_ ∨ w.heap.size ≤ k_) ∧ some k_ ≠ (.slice (some ad258) t244.length co16 : Value).ownBlock ∧ k_ ≠ gb239) rfl rfl ?aX (Kd.N_F HO65.out) (by simp) (fun _ hk => hk) ?aF ?aL1 ?aL2 ?_
            (case aX => exact (by have h1 := Kd.F_imp (d' := Kd.slice 3 (Kd.int .i64)) (A' := some ⟨g9, 0, none⟩) (n' := (x9_1.take k11).length) (xs' := x9_1.take k11) (Kd.N_F (Kd.N_mono (ok' := (fun k_ => (P1_ k_ ∨ w.heap.size ≤ k_) ∧ some k_ ≠ (.slice (some ad258) t244.length co16 : Value).ownBlock ∧ k_ ≠ gb239)) HO_9.out (fun _ hk => hk.1))) (fun W' hC => Kd.C_take (m := k11) hC HK9.out); rw [show (x9_1.take k11).length = k11 by rw [List.length_take]; have := HK9.out; omega] at h1; exact h1))
            (case aF => exact (fun k_ hk => ⟨(.inr (Nat.le_trans (below_size HB.out) hk)), Kd.fresh' (Kd.N_lt HO_7.out) k_ hk, Kd.freshB (g := gb239) (o := .cells #[.int .i64 a0_0, .slice A0_1 l0_1.length c0_1] 24 (0, 0)) BK239.out k_ hk⟩))
            (case aL1 => have := HLEN.out; have := HK9.out; simp [maxLen]; omega)
            (case aL2 => have := HLEN.out; have := HK9.out; simp; omega)
            intro v66 w17 ho66 hg
            have hb : Below w16.heap.size w16 w17 := (Below.refl _ _).grown hg (Nat.le_refl _) (fun j hj => by cases hj)
            have HS1_ := (hb.cell (World.block_lt_of_cell? _ _ hHeld)).trans hHeld
            have n0_ := Aside0.mk (Kd.N_mono (ok' := (fun k_ => (P1_ k_ ∨ w.heap.size ≤ k_) ∧ some k_ ≠ v66.ownBlock ∧ k_ ≠ gb239)) (Kd.N_elder' HO_7.out (Kd.N_base ho66) hb) (fun k_ hk => ⟨hk.1.1.1, hk.2, hk.1.1.2.2⟩))
            have n1_ := Aside0.mk (show Kd.N (Kd.slice 3 (Kd.int .i64)) 25 w17 w.heap.size (fun k_ => (P1_ k_ ∨ w.heap.size ≤ k_) ∧ some k_ ≠ (.slice (some ad258) t244.length co16 : Value).ownBlock ∧ k_ ≠ gb239) v66 (x9_1.take ((k11 : Int)).toNat ++ (rd_T87 t244 x10_1).f0 :: x9_1.drop ((k11 : Int)).toNat) from Kd.N_lower ho66 (below_size HB.out))
            have n2_ := Aside0.mk (blk_below (g := gb239) BK239.out hb)
            have n3_ := Aside0.mk (below_step HB.out hb)
            clear HO_7 HO_9 BK239 HB HO65
            have HO_7 := n0_
            have HO_9 := n1_
            have BK239 := n2_
            have HB := n3_
            clear n0_ n1_ n2_ n3_ ho66
            refine hK.out _ _ HS1_ (fun hHeld => ?_)
            clear hK K HS1_ hb hg
            refine norm_ (a' := ?_) ?_ ?_
            rotate_left
            ·
             show Act.put _ (some 66) _ = _
             simp only [Act.put, List.setIfInBounds_toArray, List.set_cons_zero, List.set_cons_succ, i64_w, i32_w]
             rfl
            refine pst (i := 15) (N := some 9) (bz 16 65535) (by kernel_rfl) ?_
            refine done_ (by kernel_rfl) ?_
            clear hHeld
            go_wp2
            all_goals
             go_roundg k2
             case measure => have := HK1.out; have := HK2.out; omega
             case rel => exact ⟨_, (wrap64 (x10_1 + 1)), rsz, H', ⟨by have := HK1.out; have := HK2.out; omega⟩, ⟨by (with_reducible repeat (first | apply Kd.N_alloc | apply Kd.N_drewN | apply Kd.N_drew)); exact HO_7.out⟩, ⟨by (with_reducible repeat (first | apply Kd.N_alloc | apply Kd.N_drewN | apply Kd.N_drew)); exact HO_9.out⟩, ⟨blkz⟩, ⟨bel⟩⟩
          ·
           rw [if_neg c32] at H
           exact absurd H (by simp)
         ·
          rw [if_neg c31] at H
          exact absurd H (by simp)
     ·
      rw [if_neg c15] at H
      have c15b0 : decide (x10_1 < (t244.length : Int)) = false := decide_eq_false c15
      clear c15
      simp only [Option.some.injEq, Prod.mk.injEq] at H
      obtain ⟨rfl, rfl⟩ := H
      obtain ⟨Ao38, co38, eo38⟩ := Kd.N_slice HO_7.out
      subst eo38
      go_wp2
      repeat (go_quiet (fail); try go_wp2)
      go_ret2
      exact ⟨_, ezz, by (with_reducible repeat (first | apply Kd.N_alloc | apply Kd.N_drewN | apply Kd.N_drew)); exact Kd.N_mono HO_9.out (fun _ hk => hk.1), bel⟩
  ·
   replace c6 := Bool.eq_false_iff.mpr c6
   subst c6
   rw [if_neg (show ¬ (false = true) by decide)] at H
   simp only [Option.some.injEq, Prod.mk.injEq] at H
   obtain ⟨rfl, rfl⟩ := H
   go_enter Try.func33, Try.ntmps33
   go_wp2_with (first | ((with_reducible refine gate_dst (N := 2) rfl ?_); refine box_event ?hg (N := 2) ?hd (cs := #[.int .i64 a0_0, .slice A0_1 l0_1.length c0_1]) (t := 24) ?hr ?_; (case hd => rfl); (case hg => rfl); (case hr => first | (go_simp; done) | (go_simp; rfl)); intro gb239 hg w39 hbox hb; have BK239 := Aside0.mk (hbox); have GW239 := bsz (w := w) hg; have GE239 := GW239; replace HO1 := Aside0.mk (Kd.V_below (Kd.V_elderB (by (with_reducible repeat (first | apply Kd.V_alloc | apply Kd.V_drewN | apply Kd.V_drew)); exact HO1.out) gb239 (Nat.le_of_eq hg.symm)) hb); replace HB := Aside0.mk (below_step bel hb); clear hb hbox hg; obtain ⟨hcz40_0, hcz40_1⟩ := bc2 BK239.out) | ((with_reducible refine gate_dst (N := 14) rfl ?_); refine Kd.N_lit (Kd.slice 3 (Kd.int .i64)) _ 25 ?hg (N' := 14) ?hd (xs := ([l1] : List (List Int))) (inner := [.slice A1 l1.length c1]) (ok := (fun k_ => (P1_ k_ ∨ w.heap.size ≤ k_) ∧ k_ ≠ gb239)) (okp := (fun k_ => (P1_ k_ ∨ w.heap.size ≤ k_) ∧ k_ ≠ gb239)) ?hr ?hp (fun _ hk => hk) ((show ∀ k_, w39.heap.size ≤ k_ → (fun k_ => (P1_ k_ ∨ w.heap.size ≤ k_) ∧ k_ ≠ gb239) k_ from fun k_ hk => ⟨(.inr (Nat.le_trans (below_size bel) hk)), Kd.freshB (g := gb239) (o := .cells #[.int .i64 a0_0, .slice A0_1 l0_1.length c0_1] 24 (0, 0)) blkz k_ hk⟩) _ (Nat.le_refl _)) (Below.refl _ _) (Nat.le_refl _) (by simp) ?_; (case hd => rfl); (case hg => rfl); (case hr => first | (go_simp; done) | (go_simp; rfl)); (case hp => exact (Reps.one (show Kd.FK (Kd.slice 3 (Kd.int .i64)) _ _ l1 [.slice A1 l1.length c1] from (Kd.FK_slice_mk (Kd.V_reads' (Kd.V_mono (ok' := (fun k_ => (P1_ k_ ∨ w.heap.size ≤ k_) ∧ k_ ≠ gb239)) (HO1.out) (fun k_ hk => ⟨hk.1, hk.2⟩))).2.1 (Kd.V_F (Kd.V_mono (ok' := (fun k_ => (P1_ k_ ∨ w.heap.size ≤ k_) ∧ k_ ≠ gb239)) (HO1.out) (fun k_ hk => ⟨hk.1, hk.2⟩))))) (Reps.none _ _))); intro v241 w41 ho42 hb hg_ hnew_; clear hg_ hnew_; (first | rw [← Ny240.out] at ho42 | (simp only [Int.reduceToNat] at ho42; rw [← Ny240.out] at ho42)); have HO242 := Aside0.mk (Kd.N_lower ho42 (below_size bel)); replace HO1 := Aside0.mk (Kd.V_elder' (by (with_reducible repeat (first | apply Kd.V_alloc | apply Kd.V_drewN | apply Kd.V_drew)); exact HO1.out) (Kd.N_base ho42) hb); replace BK239 := Aside0.mk (blk_below (g := gb239) blkz hb); replace HB := Aside0.mk (below_step bel hb); clear hb ho42; obtain ⟨Ao43, co43, eo43⟩ := Kd.N_slice HO242.out; subst eo43) | (go_at_call 72; (with_reducible refine (dropperref06_asked.calls k a0_0 _ _ l0_1 _ _ y240 t243 _ (cbz HR0_1) HC0_1.out ?side3 ?side4 A3.out).mono ?_); (case side3 => repeat (first | exact (Kd.N_reads' HO242.out).2.2 | (with_reducible refine Kd.C_alloc ?_ _) | (with_reducible refine Kd.C_drewN ?_ _) | (with_reducible refine Kd.C_drew ?_))); (case side4 => exact (Kd.N_reads' HO242.out).2.1); rintro e w44 ⟨rfl, hb⟩; replace HO1 := Aside0.mk (Kd.V_below (by (with_reducible repeat (first | apply Kd.V_alloc | apply Kd.V_drewN | apply Kd.V_drew)); exact HO1.out) hb); replace HO242 := Aside0.mk (Kd.N_below (by (with_reducible repeat (first | apply Kd.N_alloc | apply Kd.N_drewN | apply Kd.N_drew)); exact HO242.out) hb); replace BK239 := Aside0.mk (blk_below (g := gb239) blkz hb); replace HB := Aside0.mk (below_step bel hb); clear hb; obtain ⟨hcz45_0, hcz45_1⟩ := bc2 BK239.out) | (go_at_call 74; (with_reducible refine (dropperref06_found.calls k a0_0 _ _ l0_1 (fun k_ => (((P1_ k_ ∨ w.heap.size ≤ k_) ∧ k_ ≠ gb239) ∧ some k_ ≠ (.slice Ao43 y240.length co43 : Value).ownBlock)) _ _ l1 t244 false _ (cbz HR0_1) HC0_1.out HO1.out A5.out).mono ?_); rintro e w46 ⟨v245, rfl, ho0, hb⟩; have HO246 := Aside0.mk (Kd.N_lower (Kd.N_mono (ok' := fun k_ => (P1_ k_ ∨ w.heap.size ≤ k_) ∧ some k_ ≠ (.slice Ao43 y240.length co43 : Value).ownBlock ∧ k_ ≠ gb239) ho0 (fun k_ hk_ => ⟨Or.elim hk_ (fun hs_ => hs_.1.1) (fun hn_ => (.inr (Nat.le_trans (below_size bel) hn_))), Or.elim hk_ (fun hs_ => hs_.2) (fun hn_ => (Kd.fresh' (Kd.N_lt (by (with_reducible repeat (first | apply Kd.N_alloc | apply Kd.N_drewN | apply Kd.N_drew)); exact HO242.out)) k_ hn_)), Or.elim hk_ (fun hs_ => hs_.1.2) (fun hn_ => (Kd.freshB (g := gb239) (o := .cells #[.int .i64 a0_0, .slice A0_1 l0_1.length c0_1] 24 (0, 0)) blkz k_ hn_))⟩)) (below_size bel)); replace HO1 := Aside0.mk (Kd.V_elder' (by (with_reducible repeat (first | apply Kd.V_alloc | apply Kd.V_drewN | apply Kd.V_drew)); exact HO1.out) (Kd.N_base ho0) hb); replace HO242 := Aside0.mk (Kd.N_elder' (by (with_reducible repeat (first | apply Kd.N_alloc | apply Kd.N_drewN | apply Kd.N_drew)); exact HO242.out) (Kd.N_base ho0) hb); replace BK239 := Aside0.mk (blk_below (g := gb239) blkz hb); replace HB := Aside0.mk (below_step bel hb); (try clear hb); (try clear hb2); (try clear hk); (try clear hi); (try clear ho0)))
   repeat (go_quiet (first | ((with_reducible refine gate_dst (N := 2) rfl ?_); refine box_event ?hg (N := 2) ?hd (cs := #[.int .i64 a0_0, .slice A0_1 l0_1.length c0_1]) (t := 24) ?hr ?_; (case hd => rfl); (case hg => rfl); (case hr => first | (go_simp; done) | (go_simp; rfl)); intro gb239 hg w39 hbox hb; have BK239 := Aside0.mk (hbox); have GW239 := bsz (w := w) hg; have GE239 := GW239; replace HO1 := Aside0.mk (Kd.V_below (Kd.V_elderB (by (with_reducible repeat (first | apply Kd.V_alloc | apply Kd.V_drewN | apply Kd.V_drew)); exact HO1.out) gb239 (Nat.le_of_eq hg.symm)) hb); replace HB := Aside0.mk (below_step bel hb); clear hb hbox hg; obtain ⟨hcz40_0, hcz40_1⟩ := bc2 BK239.out) | ((with_reducible refine gate_dst (N := 14) rfl ?_); refine Kd.N_lit (Kd.slice 3 (Kd.int .i64)) _ 25 ?hg (N' := 14) ?hd (xs := ([l1] : List (List Int))) (inner := [.slice A1 l1.length c1]) (ok := (fun k_ => (P1_ k_ ∨ w.heap.size ≤ k_) ∧ k_ ≠ gb239)) (okp := (fun k_ => (P1_ k_ ∨ w.heap.size ≤ k_) ∧ k_ ≠ gb239)) ?hr ?hp (fun _ hk => hk) ((show ∀ k_, w39.heap.size ≤ k_ → (fun k_ => (P1_ k_ ∨ w.heap.size ≤ k_) ∧ k_ ≠ gb239) k_ from fun k_ hk => ⟨(.inr (Nat.le_trans (below_size bel) hk)), Kd.freshB (g := gb239) (o := .cells #[.int .i64 a0_0, .slice A0_1 l0_1.length c0_1] 24 (0, 0)) blkz k_ hk⟩) _ (Nat.le_refl _)) (Below.refl _ _) (Nat.le_refl _) (by simp) ?_; (case hd => rfl); (case hg => rfl); (case hr => first | (go_simp; done) | (go_simp; rfl)); (case hp => exact (Reps.one (show Kd.FK (Kd.slice 3 (Kd.int .i64)) _ _ l1 [.slice A1 l1.length c1] from (Kd.FK_slice_mk (Kd.V_reads' (Kd.V_mono (ok' := (fun k_ => (P1_ k_ ∨ w.heap.size ≤ k_) ∧ k_ ≠ gb239)) (HO1.out) (fun k_ hk => ⟨hk.1, hk.2⟩))).2.1 (Kd.V_F (Kd.V_mono (ok' := (fun k_ => (P1_ k_ ∨ w.heap.size ≤ k_) ∧ k_ ≠ gb239)) (HO1.out) (fun k_ hk => ⟨hk.1, hk.2⟩))))) (Reps.none _ _))); intro v241 w41 ho42 hb hg_ hnew_; clear hg_ hnew_; (first | rw [← Ny240.out] at ho42 | (simp only [Int.reduceToNat] at ho42; rw [← Ny240.out] at ho42)); have HO242 := Aside0.mk (Kd.N_lower ho42 (below_size bel)); replace HO1 := Aside0.mk (Kd.V_elder' (by (with_reducible repeat (first | apply Kd.V_alloc | apply Kd.V_drewN | apply Kd.V_drew)); exact HO1.out) (Kd.N_base ho42) hb); replace BK239 := Aside0.mk (blk_below (g := gb239) blkz hb); replace HB := Aside0.mk (below_step bel hb); clear hb ho42; obtain ⟨Ao43, co43, eo43⟩ := Kd.N_slice HO242.out; subst eo43) | (go_at_call 72; (with_reducible refine (dropperref06_asked.calls k a0_0 _ _ l0_1 _ _ y240 t243 _ (cbz HR0_1) HC0_1.out ?side3 ?side4 A3.out).mono ?_); (case side3 => repeat (first | exact (Kd.N_reads' HO242.out).2.2 | (with_reducible refine Kd.C_alloc ?_ _) | (with_reducible refine Kd.C_drewN ?_ _) | (with_reducible refine Kd.C_drew ?_))); (case side4 => exact (Kd.N_reads' HO242.out).2.1); rintro e w44 ⟨rfl, hb⟩; replace HO1 := Aside0.mk (Kd.V_below (by (with_reducible repeat (first | apply Kd.V_alloc | apply Kd.V_drewN | apply Kd.V_drew)); exact HO1.out) hb); replace HO242 := Aside0.mk (Kd.N_below (by (with_reducible repeat (first | apply Kd.N_alloc | apply Kd.N_drewN | apply Kd.N_drew)); exact HO242.out) hb); replace BK239 := Aside0.mk (blk_below (g := gb239) blkz hb); replace HB := Aside0.mk (below_step bel hb); clear hb; obtain ⟨hcz45_0, hcz45_1⟩ := bc2 BK239.out) | (go_at_call 74; (with_reducible refine (dropperref06_found.calls k a0_0 _ _ l0_1 (fun k_ => (((P1_ k_ ∨ w.heap.size ≤ k_) ∧ k_ ≠ gb239) ∧ some k_ ≠ (.slice Ao43 y240.length co43 : Value).ownBlock)) _ _ l1 t244 false _ (cbz HR0_1) HC0_1.out HO1.out A5.out).mono ?_); rintro e w46 ⟨v245, rfl, ho0, hb⟩; have HO246 := Aside0.mk (Kd.N_lower (Kd.N_mono (ok' := fun k_ => (P1_ k_ ∨ w.heap.size ≤ k_) ∧ some k_ ≠ (.slice Ao43 y240.length co43 : Value).ownBlock ∧ k_ ≠ gb239) ho0 (fun k_ hk_ => ⟨Or.elim hk_ (fun hs_ => hs_.1.1) (fun hn_ => (.inr (Nat.le_trans (below_size bel) hn_))), Or.elim hk_ (fun hs_ => hs_.2) (fun hn_ => (Kd.fresh' (Kd.N_lt (by (with_reducible repeat (first | apply Kd.N_alloc | apply Kd.N_drewN | apply Kd.N_drew)); exact HO242.out)) k_ hn_)), Or.elim hk_ (fun hs_ => hs_.1.2) (fun hn_ => (Kd.freshB (g := gb239) (o := .cells #[.int .i64 a0_0, .slice A0_1 l0_1.length c0_1] 24 (0, 0)) blkz k_ hn_))⟩)) (below_size bel)); replace HO1 := Aside0.mk (Kd.V_elder' (by (with_reducible repeat (first | apply Kd.V_alloc | apply Kd.V_drewN | apply Kd.V_drew)); exact HO1.out) (Kd.N_base ho0) hb); replace HO242 := Aside0.mk (Kd.N_elder' (by (with_reducible repeat (first | apply Kd.N_alloc | apply Kd.N_drewN | apply Kd.N_drew)); exact HO242.out) (Kd.N_base ho0) hb); replace BK239 := Aside0.mk (blk_below (g := gb239) blkz hb); replace HB := Aside0.mk (below_step bel hb); (try clear hb); (try clear hb2); (try clear hk); (try clear hi); (try clear ho0))); try go_wp2_with (first | ((with_reducible refine gate_dst (N := 2) rfl ?_); refine box_event ?hg (N := 2) ?hd (cs := #[.int .i64 a0_0, .slice A0_1 l0_1.length c0_1]) (t := 24) ?hr ?_; (case hd => rfl); (case hg => rfl); (case hr => first | (go_simp; done) | (go_simp; rfl)); intro gb239 hg w39 hbox hb; have BK239 := Aside0.mk (hbox); have GW239 := bsz (w := w) hg; have GE239 := GW239; replace HO1 := Aside0.mk (Kd.V_below (Kd.V_elderB (by (with_reducible repeat (first | apply Kd.V_alloc | apply Kd.V_drewN | apply Kd.V_drew)); exact HO1.out) gb239 (Nat.le_of_eq hg.symm)) hb); replace HB := Aside0.mk (below_step bel hb); clear hb hbox hg; obtain ⟨hcz40_0, hcz40_1⟩ := bc2 BK239.out) | ((with_reducible refine gate_dst (N := 14) rfl ?_); refine Kd.N_lit (Kd.slice 3 (Kd.int .i64)) _ 25 ?hg (N' := 14) ?hd (xs := ([l1] : List (List Int))) (inner := [.slice A1 l1.length c1]) (ok := (fun k_ => (P1_ k_ ∨ w.heap.size ≤ k_) ∧ k_ ≠ gb239)) (okp := (fun k_ => (P1_ k_ ∨ w.heap.size ≤ k_) ∧ k_ ≠ gb239)) ?hr ?hp (fun _ hk => hk) ((show ∀ k_, w39.heap.size ≤ k_ → (fun k_ => (P1_ k_ ∨ w.heap.size ≤ k_) ∧ k_ ≠ gb239) k_ from fun k_ hk => ⟨(.inr (Nat.le_trans (below_size bel) hk)), Kd.freshB (g := gb239) (o := .cells #[.int .i64 a0_0, .slice A0_1 l0_1.length c0_1] 24 (0, 0)) blkz k_ hk⟩) _ (Nat.le_refl _)) (Below.refl _ _) (Nat.le_refl _) (by simp) ?_; (case hd => rfl); (case hg => rfl); (case hr => first | (go_simp; done) | (go_simp; rfl)); (case hp => exact (Reps.one (show Kd.FK (Kd.slice 3 (Kd.int .i64)) _ _ l1 [.slice A1 l1.length c1] from (Kd.FK_slice_mk (Kd.V_reads' (Kd.V_mono (ok' := (fun k_ => (P1_ k_ ∨ w.heap.size ≤ k_) ∧ k_ ≠ gb239)) (HO1.out) (fun k_ hk => ⟨hk.1, hk.2⟩))).2.1 (Kd.V_F (Kd.V_mono (ok' := (fun k_ => (P1_ k_ ∨ w.heap.size ≤ k_) ∧ k_ ≠ gb239)) (HO1.out) (fun k_ hk => ⟨hk.1, hk.2⟩))))) (Reps.none _ _))); intro v241 w41 ho42 hb hg_ hnew_; clear hg_ hnew_; (first | rw [← Ny240.out] at ho42 | (simp only [Int.reduceToNat] at ho42; rw [← Ny240.out] at ho42)); have HO242 := Aside0.mk (Kd.N_lower ho42 (below_size bel)); replace HO1 := Aside0.mk (Kd.V_elder' (by (with_reducible repeat (first | apply Kd.V_alloc | apply Kd.V_drewN | apply Kd.V_drew)); exact HO1.out) (Kd.N_base ho42) hb); replace BK239 := Aside0.mk (blk_below (g := gb239) blkz hb); replace HB := Aside0.mk (below_step bel hb); clear hb ho42; obtain ⟨Ao43, co43, eo43⟩ := Kd.N_slice HO242.out; subst eo43) | (go_at_call 72; (with_reducible refine (dropperref06_asked.calls k a0_0 _ _ l0_1 _ _ y240 t243 _ (cbz HR0_1) HC0_1.out ?side3 ?side4 A3.out).mono ?_); (case side3 => repeat (first | exact (Kd.N_reads' HO242.out).2.2 | (with_reducible refine Kd.C_alloc ?_ _) | (with_reducible refine Kd.C_drewN ?_ _) | (with_reducible refine Kd.C_drew ?_))); (case side4 => exact (Kd.N_reads' HO242.out).2.1); rintro e w44 ⟨rfl, hb⟩; replace HO1 := Aside0.mk (Kd.V_below (by (with_reducible repeat (first | apply Kd.V_alloc | apply Kd.V_drewN | apply Kd.V_drew)); exact HO1.out) hb); replace HO242 := Aside0.mk (Kd.N_below (by (with_reducible repeat (first | apply Kd.N_alloc | apply Kd.N_drewN | apply Kd.N_drew)); exact HO242.out) hb); replace BK239 := Aside0.mk (blk_below (g := gb239) blkz hb); replace HB := Aside0.mk (below_step bel hb); clear hb; obtain ⟨hcz45_0, hcz45_1⟩ := bc2 BK239.out) | (go_at_call 74; (with_reducible refine (dropperref06_found.calls k a0_0 _ _ l0_1 (fun k_ => (((P1_ k_ ∨ w.heap.size ≤ k_) ∧ k_ ≠ gb239) ∧ some k_ ≠ (.slice Ao43 y240.length co43 : Value).ownBlock)) _ _ l1 t244 false _ (cbz HR0_1) HC0_1.out HO1.out A5.out).mono ?_); rintro e w46 ⟨v245, rfl, ho0, hb⟩; have HO246 := Aside0.mk (Kd.N_lower (Kd.N_mono (ok' := fun k_ => (P1_ k_ ∨ w.heap.size ≤ k_) ∧ some k_ ≠ (.slice Ao43 y240.length co43 : Value).ownBlock ∧ k_ ≠ gb239) ho0 (fun k_ hk_ => ⟨Or.elim hk_ (fun hs_ => hs_.1.1) (fun hn_ => (.inr (Nat.le_trans (below_size bel) hn_))), Or.elim hk_ (fun hs_ => hs_.2) (fun hn_ => (Kd.fresh' (Kd.N_lt (by (with_reducible repeat (first | apply Kd.N_alloc | apply Kd.N_drewN | apply Kd.N_drew)); exact HO242.out)) k_ hn_)), Or.elim hk_ (fun hs_ => hs_.1.2) (fun hn_ => (Kd.freshB (g := gb239) (o := .cells #[.int .i64 a0_0, .slice A0_1 l0_1.length c0_1] 24 (0, 0)) blkz k_ hn_))⟩)) (below_size bel)); replace HO1 := Aside0.mk (Kd.V_elder' (by (with_reducible repeat (first | apply Kd.V_alloc | apply Kd.V_drewN | apply Kd.V_drew)); exact HO1.out) (Kd.N_base ho0) hb); replace HO242 := Aside0.mk (Kd.N_elder' (by (with_reducible repeat (first | apply Kd.N_alloc | apply Kd.N_drewN | apply Kd.N_drew)); exact HO242.out) (Kd.N_base ho0) hb); replace BK239 := Aside0.mk (blk_below (g := gb239) blkz hb); replace HB := Aside0.mk (below_step bel hb); (try clear hb); (try clear hb2); (try clear hk); (try clear hi); (try clear ho0))))
   go_ret2
   exact ⟨_, ezz, by first | exact Kd.S_nil _ _ _ _ _ | exact Kd.N_nil _ _ _ _ _ | exact Kd.V_nil _ _ _ _ _ | exact Kd.Q_nil _ _ _ _ _ | exact Kd.R_nil _ _ _ _ _, bel⟩
 ·
  rw [if_neg c4] at H
  have c4b0 : (t243 == 0) = false := beq_eq_false_iff_ne.mpr c4
  have c4b1 : (t243 != 0) = true := bne_iff_ne.mpr c4
  simp only [Option.some.injEq, Prod.mk.injEq] at H
  obtain ⟨rfl, rfl⟩ := H
  go_enter Try.func33, Try.ntmps33
  go_wp2_with (first | ((with_reducible refine gate_dst (N := 2) rfl ?_); refine box_event ?hg (N := 2) ?hd (cs := #[.int .i64 a0_0, .slice A0_1 l0_1.length c0_1]) (t := 24) ?hr ?_; (case hd => rfl); (case hg => rfl); (case hr => first | (go_simp; done) | (go_simp; rfl)); intro gb239 hg w47 hbox hb; have BK239 := Aside0.mk (hbox); have GW239 := bsz (w := w) hg; have GE239 := GW239; replace HO1 := Aside0.mk (Kd.V_below (Kd.V_elderB (by (with_reducible repeat (first | apply Kd.V_alloc | apply Kd.V_drewN | apply Kd.V_drew)); exact HO1.out) gb239 (Nat.le_of_eq hg.symm)) hb); replace HB := Aside0.mk (below_step bel hb); clear hb hbox hg; obtain ⟨hcz48_0, hcz48_1⟩ := bc2 BK239.out) | ((with_reducible refine gate_dst (N := 14) rfl ?_); refine Kd.N_lit (Kd.slice 3 (Kd.int .i64)) _ 25 ?hg (N' := 14) ?hd (xs := ([l1] : List (List Int))) (inner := [.slice A1 l1.length c1]) (ok := (fun k_ => (P1_ k_ ∨ w.heap.size ≤ k_) ∧ k_ ≠ gb239)) (okp := (fun k_ => (P1_ k_ ∨ w.heap.size ≤ k_) ∧ k_ ≠ gb239)) ?hr ?hp (fun _ hk => hk) ((show ∀ k_, w47.heap.size ≤ k_ → (fun k_ => (P1_ k_ ∨ w.heap.size ≤ k_) ∧ k_ ≠ gb239) k_ from fun k_ hk => ⟨(.inr (Nat.le_trans (below_size bel) hk)), Kd.freshB (g := gb239) (o := .cells #[.int .i64 a0_0, .slice A0_1 l0_1.length c0_1] 24 (0, 0)) blkz k_ hk⟩) _ (Nat.le_refl _)) (Below.refl _ _) (Nat.le_refl _) (by simp) ?_; (case hd => rfl); (case hg => rfl); (case hr => first | (go_simp; done) | (go_simp; rfl)); (case hp => exact (Reps.one (show Kd.FK (Kd.slice 3 (Kd.int .i64)) _ _ l1 [.slice A1 l1.length c1] from (Kd.FK_slice_mk (Kd.V_reads' (Kd.V_mono (ok' := (fun k_ => (P1_ k_ ∨ w.heap.size ≤ k_) ∧ k_ ≠ gb239)) (HO1.out) (fun k_ hk => ⟨hk.1, hk.2⟩))).2.1 (Kd.V_F (Kd.V_mono (ok' := (fun k_ => (P1_ k_ ∨ w.heap.size ≤ k_) ∧ k_ ≠ gb239)) (HO1.out) (fun k_ hk => ⟨hk.1, hk.2⟩))))) (Reps.none _ _))); intro v241 w49 ho50 hb hg_ hnew_; clear hg_ hnew_; (first | rw [← Ny240.out] at ho50 | (simp only [Int.reduceToNat] at ho50; rw [← Ny240.out] at ho50)); have HO242 := Aside0.mk (Kd.N_lower ho50 (below_size bel)); replace HO1 := Aside0.mk (Kd.V_elder' (by (with_reducible repeat (first | apply Kd.V_alloc | apply Kd.V_drewN | apply Kd.V_drew)); exact HO1.out) (Kd.N_base ho50) hb); replace BK239 := Aside0.mk (blk_below (g := gb239) blkz hb); replace HB := Aside0.mk (below_step bel hb); clear hb ho50; obtain ⟨Ao51, co51, eo51⟩ := Kd.N_slice HO242.out; subst eo51) | (go_at_call 72; (with_reducible refine (dropperref06_asked.calls k a0_0 _ _ l0_1 _ _ y240 t243 _ (cbz HR0_1) HC0_1.out ?side3 ?side4 A3.out).mono ?_); (case side3 => repeat (first | exact (Kd.N_reads' HO242.out).2.2 | (with_reducible refine Kd.C_alloc ?_ _) | (with_reducible refine Kd.C_drewN ?_ _) | (with_reducible refine Kd.C_drew ?_))); (case side4 => exact (Kd.N_reads' HO242.out).2.1); rintro e w52 ⟨rfl, hb⟩; replace HO1 := Aside0.mk (Kd.V_below (by (with_reducible repeat (first | apply Kd.V_alloc | apply Kd.V_drewN | apply Kd.V_drew)); exact HO1.out) hb); replace HO242 := Aside0.mk (Kd.N_below (by (with_reducible repeat (first | apply Kd.N_alloc | apply Kd.N_drewN | apply Kd.N_drew)); exact HO242.out) hb); replace BK239 := Aside0.mk (blk_below (g := gb239) blkz hb); replace HB := Aside0.mk (below_step bel hb); clear hb))
  repeat (go_quiet (first | ((with_reducible refine gate_dst (N := 2) rfl ?_); refine box_event ?hg (N := 2) ?hd (cs := #[.int .i64 a0_0, .slice A0_1 l0_1.length c0_1]) (t := 24) ?hr ?_; (case hd => rfl); (case hg => rfl); (case hr => first | (go_simp; done) | (go_simp; rfl)); intro gb239 hg w47 hbox hb; have BK239 := Aside0.mk (hbox); have GW239 := bsz (w := w) hg; have GE239 := GW239; replace HO1 := Aside0.mk (Kd.V_below (Kd.V_elderB (by (with_reducible repeat (first | apply Kd.V_alloc | apply Kd.V_drewN | apply Kd.V_drew)); exact HO1.out) gb239 (Nat.le_of_eq hg.symm)) hb); replace HB := Aside0.mk (below_step bel hb); clear hb hbox hg; obtain ⟨hcz48_0, hcz48_1⟩ := bc2 BK239.out) | ((with_reducible refine gate_dst (N := 14) rfl ?_); refine Kd.N_lit (Kd.slice 3 (Kd.int .i64)) _ 25 ?hg (N' := 14) ?hd (xs := ([l1] : List (List Int))) (inner := [.slice A1 l1.length c1]) (ok := (fun k_ => (P1_ k_ ∨ w.heap.size ≤ k_) ∧ k_ ≠ gb239)) (okp := (fun k_ => (P1_ k_ ∨ w.heap.size ≤ k_) ∧ k_ ≠ gb239)) ?hr ?hp (fun _ hk => hk) ((show ∀ k_, w47.heap.size ≤ k_ → (fun k_ => (P1_ k_ ∨ w.heap.size ≤ k_) ∧ k_ ≠ gb239) k_ from fun k_ hk => ⟨(.inr (Nat.le_trans (below_size bel) hk)), Kd.freshB (g := gb239) (o := .cells #[.int .i64 a0_0, .slice A0_1 l0_1.length c0_1] 24 (0, 0)) blkz k_ hk⟩) _ (Nat.le_refl _)) (Below.refl _ _) (Nat.le_refl _) (by simp) ?_; (case hd => rfl); (case hg => rfl); (case hr => first | (go_simp; done) | (go_simp; rfl)); (case hp => exact (Reps.one (show Kd.FK (Kd.slice 3 (Kd.int .i64)) _ _ l1 [.slice A1 l1.length c1] from (Kd.FK_slice_mk (Kd.V_reads' (Kd.V_mono (ok' := (fun k_ => (P1_ k_ ∨ w.heap.size ≤ k_) ∧ k_ ≠ gb239)) (HO1.out) (fun k_ hk => ⟨hk.1, hk.2⟩))).2.1 (Kd.V_F (Kd.V_mono (ok' := (fun k_ => (P1_ k_ ∨ w.heap.size ≤ k_) ∧ k_ ≠ gb239)) (HO1.out) (fun k_ hk => ⟨hk.1, hk.2⟩))))) (Reps.none _ _))); intro v241 w49 ho50 hb hg_ hnew_; clear hg_ hnew_; (first | rw [← Ny240.out] at ho50 | (simp only [Int.reduceToNat] at ho50; rw [← Ny240.out] at ho50)); have HO242 := Aside0.mk (Kd.N_lower ho50 (below_size bel)); replace HO1 := Aside0.mk (Kd.V_elder' (by (with_reducible repeat (first | apply Kd.V_alloc | apply Kd.V_drewN | apply Kd.V_drew)); exact HO1.out) (Kd.N_base ho50) hb); replace BK239 := Aside0.mk (blk_below (g := gb239) blkz hb); replace HB := Aside0.mk (below_step bel hb); clear hb ho50; obtain ⟨Ao51, co51, eo51⟩ := Kd.N_slice HO242.out; subst eo51) | (go_at_call 72; (with_reducible refine (dropperref06_asked.calls k a0_0 _ _ l0_1 _ _ y240 t243 _ (cbz HR0_1) HC0_1.out ?side3 ?side4 A3.out).mono ?_); (case side3 => repeat (first | exact (Kd.N_reads' HO242.out).2.2 | (with_reducible refine Kd.C_alloc ?_ _) | (with_reducible refine Kd.C_drewN ?_ _) | (with_reducible refine Kd.C_drew ?_))); (case side4 => exact (Kd.N_reads' HO242.out).2.1); rintro e w52 ⟨rfl, hb⟩; replace HO1 := Aside0.mk (Kd.V_below (by (with_reducible repeat (first | apply Kd.V_alloc | apply Kd.V_drewN | apply Kd.V_drew)); exact HO1.out) hb); replace HO242 := Aside0.mk (Kd.N_below (by (with_reducible repeat (first | apply Kd.N_alloc | apply Kd.N_drewN | apply Kd.N_drew)); exact HO242.out) hb); replace BK239 := Aside0.mk (blk_below (g := gb239) blkz hb); replace HB := Aside0.mk (below_step bel hb); clear hb)); try go_wp2_with (first | ((with_reducible refine gate_dst (N := 2) rfl ?_); refine box_event ?hg (N := 2) ?hd (cs := #[.int .i64 a0_0, .slice A0_1 l0_1.length c0_1]) (t := 24) ?hr ?_; (case hd => rfl); (case hg => rfl); (case hr => first | (go_simp; done) | (go_simp; rfl)); intro gb239 hg w47 hbox hb; have BK239 := Aside0.mk (hbox); have GW239 := bsz (w := w) hg; have GE239 := GW239; replace HO1 := Aside0.mk (Kd.V_below (Kd.V_elderB (by (with_reducible repeat (first | apply Kd.V_alloc | apply Kd.V_drewN | apply Kd.V_drew)); exact HO1.out) gb239 (Nat.le_of_eq hg.symm)) hb); replace HB := Aside0.mk (below_step bel hb); clear hb hbox hg; obtain ⟨hcz48_0, hcz48_1⟩ := bc2 BK239.out) | ((with_reducible refine gate_dst (N := 14) rfl ?_); refine Kd.N_lit (Kd.slice 3 (Kd.int .i64)) _ 25 ?hg (N' := 14) ?hd (xs := ([l1] : List (List Int))) (inner := [.slice A1 l1.length c1]) (ok := (fun k_ => (P1_ k_ ∨ w.heap.size ≤ k_) ∧ k_ ≠ gb239)) (okp := (fun k_ => (P1_ k_ ∨ w.heap.size ≤ k_) ∧ k_ ≠ gb239)) ?hr ?hp (fun _ hk => hk) ((show ∀ k_, w47.heap.size ≤ k_ → (fun k_ => (P1_ k_ ∨ w.heap.size ≤ k_) ∧ k_ ≠ gb239) k_ from fun k_ hk => ⟨(.inr (Nat.le_trans (below_size bel) hk)), Kd.freshB (g := gb239) (o := .cells #[.int .i64 a0_0, .slice A0_1 l0_1.length c0_1] 24 (0, 0)) blkz k_ hk⟩) _ (Nat.le_refl _)) (Below.refl _ _) (Nat.le_refl _) (by simp) ?_; (case hd => rfl); (case hg => rfl); (case hr => first | (go_simp; done) | (go_simp; rfl)); (case hp => exact (Reps.one (show Kd.FK (Kd.slice 3 (Kd.int .i64)) _ _ l1 [.slice A1 l1.length c1] from (Kd.FK_slice_mk (Kd.V_reads' (Kd.V_mono (ok' := (fun k_ => (P1_ k_ ∨ w.heap.size ≤ k_) ∧ k_ ≠ gb239)) (HO1.out) (fun k_ hk => ⟨hk.1, hk.2⟩))).2.1 (Kd.V_F (Kd.V_mono (ok' := (fun k_ => (P1_ k_ ∨ w.heap.size ≤ k_) ∧ k_ ≠ gb239)) (HO1.out) (fun k_ hk => ⟨hk.1, hk.2⟩))))) (Reps.none _ _))); intro v241 w49 ho50 hb hg_ hnew_; clear hg_ hnew_; (first | rw [← Ny240.out] at ho50 | (simp only [Int.reduceToNat] at ho50; rw [← Ny240.out] at ho50)); have HO242 := Aside0.mk (Kd.N_lower ho50 (below_size bel)); replace HO1 := Aside0.mk (Kd.V_elder' (by (with_reducible repeat (first | apply Kd.V_alloc | apply Kd.V_drewN | apply Kd.V_drew)); exact HO1.out) (Kd.N_base ho50) hb); replace BK239 := Aside0.mk (blk_below (g := gb239) blkz hb); replace HB := Aside0.mk (below_step bel hb); clear hb ho50; obtain ⟨Ao51, co51, eo51⟩ := Kd.N_slice HO242.out; subst eo51) | (go_at_call 72; (with_reducible refine (dropperref06_asked.calls k a0_0 _ _ l0_1 _ _ y240 t243 _ (cbz HR0_1) HC0_1.out ?side3 ?side4 A3.out).mono ?_); (case side3 => repeat (first | exact (Kd.N_reads' HO242.out).2.2 | (with_reducible refine Kd.C_alloc ?_ _) | (with_reducible refine Kd.C_drewN ?_ _) | (with_reducible refine Kd.C_drew ?_))); (case side4 => exact (Kd.N_reads' HO242.out).2.1); rintro e w52 ⟨rfl, hb⟩; replace HO1 := Aside0.mk (Kd.V_below (by (with_reducible repeat (first | apply Kd.V_alloc | apply Kd.V_drewN | apply Kd.V_drew)); exact HO1.out) hb); replace HO242 := Aside0.mk (Kd.N_below (by (with_reducible repeat (first | apply Kd.N_alloc | apply Kd.N_drewN | apply Kd.N_drew)); exact HO242.out) hb); replace BK239 := Aside0.mk (blk_below (g := gb239) blkz hb); replace HB := Aside0.mk (below_step bel hb); clear hb)))
  go_ret2
  exact ⟨_, ezz, by first | exact Kd.S_nil _ _ _ _ _ | exact Kd.N_nil _ _ _ _ _ | exact Kd.V_nil _ _ _ _ _ | exact Kd.Q_nil _ _ _ _ _ | exact Kd.R_nil _ _ _ _ _, bel⟩

/-! ### dropperlaw06_sameLists: function 34 -/
def dropperlaw06_sameLists.l0 : Nat → List (List Int) → List (List Int) → Int → Option (Bool)
 | 0, _, _, _ => none
 | k + 1, x0, x1, x5 => if x5 < (x0.length : Int) then (if 0 ≤ x5 then (if x5 < (x1.length : Int) then ((dropperlaw06_SameInts.f k (rd_L1 x0 x5) (rd_L1 x1 x5)).bind fun t300 => (if t300 = true then (dropperlaw06_sameLists.l0 k x0 x1 (wrap64 (x5 + 1))) else (some false))) else (none)) else (none)) else (some true)
def dropperlaw06_sameLists.f (k : Nat) (l0 : List (List Int)) (l1 : List (List Int)) : Option (Bool) := if (l0.length : Int) = (l1.length : Int) then (dropperlaw06_sameLists.l0 k l0 l1 0) else (some false)
set_option maxHeartbeats 8000000 in
set_option maxRecDepth 100000 in
theorem dropperlaw06_sameLists.calls (k : Nat) (A0 : Option Addr) (c0 : Nat) (l0 : List (List Int)) (A1 : Option Addr) (c1 : Nat) (l1 : List (List Int)) (r : Bool) (w : World) (hr0 : Kd.C (Kd.slice 3 (Kd.int .i64)) w A0 l0.length l0) (hc0 : l0.length ≤ c0) (hr1 : Kd.C (Kd.slice 3 (Kd.int .i64)) w A1 l1.length l1) (hc1 : l1.length ≤ c1) (h : dropperlaw06_sameLists.f k l0 l1 = some r) :
  Calls Try.prog 34 #[.slice A0 l0.length c0, .slice A1 l1.length c1] w fun e w' => e = .returned (.bool r) ∧ Drawn0 w w' := by
 have HR0 := Aside0.mk hr0
 have HC0 := Aside0.mk hc0
 clear hr0 hc0
 have HR1 := Aside0.mk hr1
 have HC1 := Aside0.mk hc1
 clear hr1 hc1
 have H : (if (l0.length : Int) = (l1.length : Int) then (dropperlaw06_sameLists.l0 k l0 l1 0) else (some false)) = some r := h
 clear h
 by_cases c3 : (l0.length : Int) = (l1.length : Int)
 ·
  rw [if_pos c3] at H
  have c3b0 : ((l0.length : Int) == (l1.length : Int)) = true := beq_iff_eq.mpr c3
  have c3b1 : ((l0.length : Int) != (l1.length : Int)) = false := bne_eq_false_iff_eq.mpr c3
  have c3b2 : (l0.length == l1.length) = true := by first | simpa using c3 | (simp at c3 ⊢; omega)
  clear c3
  have H' := Aside0.mk H
  clear H
  go_enter Try.func34, Try.ntmps34
  go_wp2
  repeat (go_quiet (fail); try go_wp2)
  go_loopg [5] k (fun kq v5 w' => ∃ (x5_1 : Int), v5 = .int .i64 x5_1 ∧ Aside0 (dropperlaw06_sameLists.l0 kq l0 l1 x5_1 = some r) ∧ Aside0 (kq ≤ k) ∧ Drawn0 w w')
  case atStart => exact ⟨(0), rsz, H', ⟨Nat.le_refl _⟩, drz⟩
  case round =>
   clear H'
   (try clear c1); (try clear p2); (try clear c3); (try clear c3b0); (try clear c3b1); (try clear c3b2)
   obtain ⟨x5_1, rfl, HA, HK1, ⟨m1, rfl⟩⟩ := hrel
   cases gk with
   | zero => exact absurd HA.out (by simp [dropperlaw06_sameLists.l0])
   | succ k1 =>
    have H := HA.out
    clear HA
    simp only [dropperlaw06_sameLists.l0] at H
    by_cases c4 : x5_1 < (l0.length : Int)
    ·
     rw [if_pos c4] at H
     have c4b0 : decide (x5_1 < (l0.length : Int)) = true := decide_eq_true c4
     clear c4
     by_cases c5 : 0 ≤ x5_1
     ·
      rw [if_pos c5] at H
      have c5b0 : decide (0 ≤ x5_1) = true := decide_eq_true c5
      clear c5
      by_cases c6 : x5_1 < (l1.length : Int)
      ·
       rw [if_pos c6] at H
       have c6b0 : decide (x5_1 < (l1.length : Int)) = true := decide_eq_true c6
       clear c6
       replace H := Option.bind_eq_some_iff.mp H
       obtain ⟨t300, A70, H⟩ := H
       try dsimp only at H
       have A7 := Aside0.mk A70
       clear A70
       by_cases c8 : t300 = true
       ·
        subst c8
        rw [if_pos rfl] at H
        have H' := Aside0.mk H
        clear H
        have p298 : 0 ≤ (x5_1 : Int) := of_decide_eq_true asz
        have q298 : x5_1 < (l0.length : Int) := of_decide_eq_true asz
        obtain ⟨ad298, A298_0, c298_0, e298, hx298_0, hl298_0, hi298_0⟩ := at_L1 HR0.out x5_1 p298 q298
        cases e298
        have HR298_0 := Aside0.mk hi298_0
        have HC298_0 := Aside0.mk hl298_0
        clear hi298_0 hl298_0
        replace p298 := eq_true p298
        replace q298 := eq_true q298
        have p299 : 0 ≤ (x5_1 : Int) := of_decide_eq_true asz
        have q299 : x5_1 < (l1.length : Int) := of_decide_eq_true asz
        obtain ⟨ad299, A299_0, c299_0, e299, hx299_0, hl299_0, hi299_0⟩ := at_L1 HR1.out x5_1 p299 q299
        cases e299
        have HR299_0 := Aside0.mk hi299_0
        have HC299_0 := Aside0.mk hl299_0
        clear hi299_0 hl299_0
        replace p299 := eq_true p299
        replace q299 := eq_true q299
        go_wp2_with (first | (go_at_call 27; (with_reducible refine (dropperlaw06_SameInts.calls k1 _ _ (rd_L1 l0 x5_1) _ _ (rd_L1 l1 x5_1) true _ ?side1 HC298_0.out ?side3 HC299_0.out A7.out).mono ?_); (case side1 => repeat (first | exact HR298_0.out | (with_reducible refine Kd.C_alloc ?_ _) | (with_reducible refine Kd.C_drewN ?_ _) | (with_reducible refine Kd.C_drew ?_))); (case side3 => repeat (first | exact HR299_0.out | (with_reducible refine Kd.C_alloc ?_ _) | (with_reducible refine Kd.C_drewN ?_ _) | (with_reducible refine Kd.C_drew ?_))); rintro e w' ⟨rfl, ⟨nd, rfl⟩⟩; (try first | exact ⟨rfl, _, World.drewN_drewN _ _ _⟩ | exact ⟨rfl, _, Eq.trans (World.drewN_drewN _ _ _) (congrArg (World.drewN _) (Nat.add_assoc _ _ _))⟩)))
        repeat (go_quiet (first | (go_at_call 27; (with_reducible refine (dropperlaw06_SameInts.calls k1 _ _ (rd_L1 l0 x5_1) _ _ (rd_L1 l1 x5_1) true _ ?side1 HC298_0.out ?side3 HC299_0.out A7.out).mono ?_); (case side1 => repeat (first | exact HR298_0.out | (with_reducible refine Kd.C_alloc ?_ _) | (with_reducible refine Kd.C_drewN ?_ _) | (with_reducible refine Kd.C_drew ?_))); (case side3 => repeat (first | exact HR299_0.out | (with_reducible refine Kd.C_alloc ?_ _) | (with_reducible refine Kd.C_drewN ?_ _) | (with_reducible refine Kd.C_drew ?_))); rintro e w' ⟨rfl, ⟨nd, rfl⟩⟩; (try first | exact ⟨rfl, _, World.drewN_drewN _ _ _⟩ | exact ⟨rfl, _, Eq.trans (World.drewN_drewN _ _ _) (congrArg (World.drewN _) (Nat.add_assoc _ _ _))⟩))); try go_wp2_with (first | (go_at_call 27; (with_reducible refine (dropperlaw06_SameInts.calls k1 _ _ (rd_L1 l0 x5_1) _ _ (rd_L1 l1 x5_1) true _ ?side1 HC298_0.out ?side3 HC299_0.out A7.out).mono ?_); (case side1 => repeat (first | exact HR298_0.out | (with_reducible refine Kd.C_alloc ?_ _) | (with_reducible refine Kd.C_drewN ?_ _) | (with_reducible refine Kd.C_drew ?_))); (case side3 => repeat (first | exact HR299_0.out | (with_reducible refine Kd.C_alloc ?_ _) | (with_reducible refine Kd.C_drewN ?_ _) | (with_reducible refine Kd.C_drew ?_))); rintro e w' ⟨rfl, ⟨nd, rfl⟩⟩; (try first | exact ⟨rfl, _, World.drewN_drewN _ _ _⟩ | exact ⟨rfl, _, Eq.trans (World.drewN_drewN _ _ _) (congrArg (World.drewN _) (Nat.add_assoc _ _ _))⟩))))
        go_roundg k1
        case measure => have := HK1.out; omega
        case rel => exact ⟨(wrap64 (x5_1 + 1)), rsz, H', ⟨by have := HK1.out; omega⟩, drz⟩
       ·
        replace c8 := Bool.eq_false_iff.mpr c8
        subst c8
        rw [if_neg (show ¬ (false = true) by decide)] at H
        obtain rfl := Option.some.inj H
        have p298 : 0 ≤ (x5_1 : Int) := of_decide_eq_true asz
        have q298 : x5_1 < (l0.length : Int) := of_decide_eq_true asz
        obtain ⟨ad298, A298_0, c298_0, e298, hx298_0, hl298_0, hi298_0⟩ := at_L1 HR0.out x5_1 p298 q298
        cases e298
        have HR298_0 := Aside0.mk hi298_0
        have HC298_0 := Aside0.mk hl298_0
        clear hi298_0 hl298_0
        replace p298 := eq_true p298
        replace q298 := eq_true q298
        have p299 : 0 ≤ (x5_1 : Int) := of_decide_eq_true asz
        have q299 : x5_1 < (l1.length : Int) := of_decide_eq_true asz
        obtain ⟨ad299, A299_0, c299_0, e299, hx299_0, hl299_0, hi299_0⟩ := at_L1 HR1.out x5_1 p299 q299
        cases e299
        have HR299_0 := Aside0.mk hi299_0
        have HC299_0 := Aside0.mk hl299_0
        clear hi299_0 hl299_0
        replace p299 := eq_true p299
        replace q299 := eq_true q299
        go_wp2_with (first | (go_at_call 27; (with_reducible refine (dropperlaw06_SameInts.calls k1 _ _ (rd_L1 l0 x5_1) _ _ (rd_L1 l1 x5_1) false _ ?side1 HC298_0.out ?side3 HC299_0.out A7.out).mono ?_); (case side1 => repeat (first | exact HR298_0.out | (with_reducible refine Kd.C_alloc ?_ _) | (with_reducible refine Kd.C_drewN ?_ _) | (with_reducible refine Kd.C_drew ?_))); (case side3 => repeat (first | exact HR299_0.out | (with_reducible refine Kd.C_alloc ?_ _) | (with_reducible refine Kd.C_drewN ?_ _) | (with_reducible refine Kd.C_drew ?_))); rintro e w' ⟨rfl, ⟨nd, rfl⟩⟩; (try first | exact ⟨rfl, _, World.drewN_drewN _ _ _⟩ | exact ⟨rfl, _, Eq.trans (World.drewN_drewN _ _ _) (congrArg (World.drewN _) (Nat.add_assoc _ _ _))⟩)))
        repeat (go_quiet (first | (go_at_call 27; (with_reducible refine (dropperlaw06_SameInts.calls k1 _ _ (rd_L1 l0 x5_1) _ _ (rd_L1 l1 x5_1) false _ ?side1 HC298_0.out ?side3 HC299_0.out A7.out).mono ?_); (case side1 => repeat (first | exact HR298_0.out | (with_reducible refine Kd.C_alloc ?_ _) | (with_reducible refine Kd.C_drewN ?_ _) | (with_reducible refine Kd.C_drew ?_))); (case side3 => repeat (first | exact HR299_0.out | (with_reducible refine Kd.C_alloc ?_ _) | (with_reducible refine Kd.C_drewN ?_ _) | (with_reducible refine Kd.C_drew ?_))); rintro e w' ⟨rfl, ⟨nd, rfl⟩⟩; (try first | exact ⟨rfl, _, World.drewN_drewN _ _ _⟩ | exact ⟨rfl, _, Eq.trans (World.drewN_drewN _ _ _) (congrArg (World.drewN _) (Nat.add_assoc _ _ _))⟩))); try go_wp2_with (first | (go_at_call 27; (with_reducible refine (dropperlaw06_SameInts.calls k1 _ _ (rd_L1 l0 x5_1) _ _ (rd_L1 l1 x5_1) false _ ?side1 HC298_0.out ?side3 HC299_0.out A7.out).mono ?_); (case side1 => repeat (first | exact HR298_0.out | (with_reducible refine Kd.C_alloc ?_ _) | (with_reducible refine Kd.C_drewN ?_ _) | (with_reducible refine Kd.C_drew ?_))); (case side3 => repeat (first | exact HR299_0.out | (with_reducible refine Kd.C_alloc ?_ _) | (with_reducible refine Kd.C_drewN ?_ _) | (with_reducible refine Kd.C_drew ?_))); rintro e w' ⟨rfl, ⟨nd, rfl⟩⟩; (try first | exact ⟨rfl, _, World.drewN_drewN _ _ _⟩ | exact ⟨rfl, _, Eq.trans (World.drewN_drewN _ _ _) (congrArg (World.drewN _) (Nat.add_assoc _ _ _))⟩))))
        go_ret
        exact ⟨by first | rfl | (simp; done) | (simp [*]; done), drz⟩
      ·
       rw [if_neg c6] at H
       exact absurd H (by simp)
     ·
      rw [if_neg c5] at H
      exact absurd H (by simp)
    ·
     rw [if_neg c4] at H
     have c4b0 : decide (x5_1 < (l0.length : Int)) = false := decide_eq_false c4
     clear c4
     obtain rfl := Option.some.inj H
     go_wp2
     repeat (go_quiet (fail); try go_wp2)
     go_ret
     exact ⟨by first | rfl | (simp; done) | (simp [*]; done), drz⟩
 ·
  rw [if_neg c3] at H
  have c3b0 : ((l0.length : Int) == (l1.length : Int)) = false := beq_eq_false_iff_ne.mpr c3
  have c3b1 : ((l0.length : Int) != (l1.length : Int)) = true := bne_iff_ne.mpr c3
  have c3b2 : (l0.length == l1.length) = false := by first | simpa using c3 | (simp at c3 ⊢; omega)
  obtain rfl := Option.some.inj H
  go_enter Try.func34, Try.ntmps34
  go_wp2
  repeat (go_quiet (fail); try go_wp2)
  go_ret
  exact ⟨by first | rfl | (simp; done) | (simp [*]; done), drz⟩

/-! ### dropperref06_Can: function 40 -/
def dropperref06_Can.l0 : Nat → List Int → List Int → Int → Int → List (S64) → Option (List Int × Int)
 | 0, _, _, _, _, _ => none
 | k + 1, x1, x7, x8, x302000, x302001 => if x8 < (x302001.length : Int) then (if 0 ≤ x8 then ((dropperref06_after.f k ((rd_T64 x302001 x8).f0) ((rd_T64 x302001 x8).f1) x1).bind fun bt307 => (if bt307.2 = true then (if x7.length < 17592186044416 then (dropperref06_Can.l0 k x1 (x7 ++ [x8]) (wrap64 (x8 + 1)) x302000 x302001) else (none)) else (dropperref06_Can.l0 k x1 x7 (wrap64 (x8 + 1)) x302000 x302001))) else (none)) else (some (x7, 0))
def dropperref06_Can.f (k : Nat) (a0_0 : Int) (l0_1 : List (S64)) (l1 : List Int) : Option (List Int × Int) := (dropperref06_asked.f k a0_0 l0_1 (([l1] : List (List Int)))).bind fun t305 => (if t305 = 0 then (dropperref06_Can.l0 k l1 ([] : List Int) 0 a0_0 l0_1) else (some (([] : List Int), t305)))
set_option maxHeartbeats 8000000 in
set_option maxRecDepth 100000 in
theorem dropperref06_Can.calls (k : Nat) (a0_0 : Int) (A0_1 : Option Addr) (c0_1 : Nat) (l0_1 : List (S64)) (P1_ : Nat → Prop) (A1 : Option Addr) (c1 : Nat) (l1 : List Int) (r1 : List Int) (r2 : Int) (w : World) (hr0_1 : Kd.C k64 w A0_1 l0_1.length l0_1) (hc0_1 : l0_1.length ≤ c0_1) (hs1 : Kd.V (Kd.int .i64) 3 w w.heap.size (fun k_ => P1_ k_) (.slice A1 l1.length c1) l1) (h : dropperref06_Can.f k a0_0 l0_1 l1 = some (r1, r2)) :
  Calls Try.prog 40 #[.agg #[.int .i64 a0_0, .slice A0_1 l0_1.length c0_1], .slice A1 l1.length c1] w fun e w' => ∃ v0_ : Value, e = .returned (.tuple #[v0_, .int .i64 r2]) ∧ Kd.R (Kd.int .i64) 3 w' w.heap.size (fun k_ => (w.heap.size ≤ k_)) v0_ r1 ∧ Below w.heap.size w w' := by
 have hu24 := Try.underlying24
 have hu64 := Try.underlying64
 have HR0_1 := Aside0.mk hr0_1
 have HC0_1 := Aside0.mk hc0_1
 clear hr0_1 hc0_1
 have HO1 := Aside0.mk (show Kd.V (Kd.int .i64) 3 w w.heap.size (fun k_ => (P1_ k_ ∨ w.heap.size ≤ k_)) (.slice A1 l1.length c1) l1 from Kd.V_mono hs1 (fun k_ hk => .inl hk))
 have HB := Aside0.mk (Below.refl w.heap.size w)
 have H : ((dropperref06_asked.f k a0_0 l0_1 (([l1] : List (List Int)))).bind fun t305 => (if t305 = 0 then (dropperref06_Can.l0 k l1 ([] : List Int) 0 a0_0 l0_1) else (some (([] : List Int), t305)))) = some (r1, r2) := h
 clear h
 obtain ⟨y302, hy302⟩ : ∃ y_ : List (List Int), y_ = (([l1] : List (List Int))) := ⟨_, rfl⟩
 replace H : ((dropperref06_asked.f k a0_0 l0_1 y302).bind fun t305 => (if t305 = 0 then (dropperref06_Can.l0 k l1 ([] : List Int) 0 a0_0 l0_1) else (some (([] : List Int), t305)))) = some (r1, r2) := by first | (rw [hy302]; with_reducible exact H) | (have H2_ := (Option.bind_some _ _).symm.trans H; rw [hy302]; with_reducible exact H2_) | (have H2_ := (Option.bind_some _ _).symm.trans H; with_reducible exact H2_) | with_reducible exact H | (rw [hy302]; exact H) | exact H
 have Ny302 := Aside0.mk hy302
 clear hy302
 replace H := Option.bind_eq_some_iff.mp H
 obtain ⟨t305, A30, H⟩ := H
 try dsimp only at H
 have A3 := Aside0.mk A30
 clear A30
 by_cases c4 : t305 = 0
 ·
  rw [if_pos c4] at H
  have c4b0 : (t305 == 0) = true := beq_iff_eq.mpr c4
  have c4b1 : (t305 != 0) = false := bne_eq_false_iff_eq.mpr c4
  clear c4
  have H' := Aside0.mk H
  clear H
  go_enter Try.func40, Try.ntmps40
  go_wp2_with (first | ((with_reducible refine gate_dst (N := 2) rfl ?_); refine box_event ?hg (N := 2) ?hd (cs := #[.int .i64 a0_0, .slice A0_1 l0_1.length c0_1]) (t := 24) ?hr ?_; (case hd => rfl); (case hg => rfl); (case hr => first | (go_simp; done) | (go_simp; rfl)); intro gb301 hg w5 hbox hb; have BK301 := Aside0.mk (hbox); have GW301 := bsz (w := w) hg; have GE301 := GW301; replace HO1 := Aside0.mk (Kd.V_below (Kd.V_elderB (by (with_reducible repeat (first | apply Kd.V_alloc | apply Kd.V_drewN | apply Kd.V_drew)); exact HO1.out) gb301 (Nat.le_of_eq hg.symm)) hb); replace HB := Aside0.mk (below_step bel hb); clear hb hbox hg; obtain ⟨hcz6_0, hcz6_1⟩ := bc2 BK301.out) | ((with_reducible refine gate_dst (N := 13) rfl ?_); refine Kd.N_lit (Kd.slice 3 (Kd.int .i64)) _ 25 ?hg (N' := 13) ?hd (xs := ([l1] : List (List Int))) (inner := [.slice A1 l1.length c1]) (ok := (fun k_ => (P1_ k_ ∨ w.heap.size ≤ k_) ∧ k_ ≠ gb301)) (okp := (fun k_ => (P1_ k_ ∨ w.heap.size ≤ k_) ∧ k_ ≠ gb301)) ?hr ?hp (fun _ hk => hk) ((show ∀ k_, w5.heap.size ≤ k_ → (fun k_ => (P1_ k_ ∨ w.heap.size ≤ k_) ∧ k_ ≠ gb301) k_ from fun k_ hk => ⟨(.inr (Nat.le_trans (below_size bel) hk)), Kd.freshB (g := gb301) (o := .cells #[.int .i64 a0_0, .slice A0_1 l0_1.length c0_1] 24 (0, 0)) blkz k_ hk⟩) _ (Nat.le_refl _)) (Below.refl _ _) (Nat.le_refl _) (by simp) ?_; (case hd => rfl); (case hg => rfl); (case hr => first | (go_simp; done) | (go_simp; rfl)); (case hp => exact (Reps.one (show Kd.FK (Kd.slice 3 (Kd.int .i64)) _ _ l1 [.slice A1 l1.length c1] from (Kd.FK_slice_mk (Kd.V_reads' (Kd.V_mono (ok' := (fun k_ => (P1_ k_ ∨ w.heap.size ≤ k_) ∧ k_ ≠ gb301)) (HO1.out) (fun k_ hk => ⟨hk.1, hk.2⟩))).2.1 (Kd.V_F (Kd.V_mono (ok' := (fun k_ => (P1_ k_ ∨ w.heap.size ≤ k_) ∧ k_ ≠ gb301)) (HO1.out) (fun k_ hk => ⟨hk.1, hk.2⟩))))) (Reps.none _ _))); intro v303 w7 ho8 hb hg_ hnew_; clear hg_ hnew_; (first | rw [← Ny302.out] at ho8 | (simp only [Int.reduceToNat] at ho8; rw [← Ny302.out] at ho8)); have HO304 := Aside0.mk (Kd.N_lower ho8 (below_size bel)); replace HO1 := Aside0.mk (Kd.V_elder' (by (with_reducible repeat (first | apply Kd.V_alloc | apply Kd.V_drewN | apply Kd.V_drew)); exact HO1.out) (Kd.N_base ho8) hb); replace BK301 := Aside0.mk (blk_below (g := gb301) blkz hb); replace HB := Aside0.mk (below_step bel hb); clear hb ho8; obtain ⟨Ao9, co9, eo9⟩ := Kd.N_slice HO304.out; subst eo9) | ((with_reducible refine gate_callee (f := 72) rfl ?_); refine goesL_ (some 14) rfl rfl Try.func72 (by kernel_rfl) rfl #[.agg #[.int .i64 a0_0, .slice A0_1 l0_1.length c0_1], .slice Ao9 y302.length co9] rfl mapz ?_; (with_reducible refine (dropperref06_asked.calls k a0_0 _ _ l0_1 _ _ y302 t305 _ (cbz HR0_1) HC0_1.out ?side3 ?side4 A3.out).mono ?_); (case side3 => repeat (first | exact (Kd.N_reads' HO304.out).2.2 | (with_reducible refine Kd.C_alloc ?_ _) | (with_reducible refine Kd.C_drewN ?_ _) | (with_reducible refine Kd.C_drew ?_))); (case side4 => exact (Kd.N_reads' HO304.out).2.1); rintro e w10 ⟨rfl, hb⟩; refine ⟨_, rfl, ?_⟩; replace HO1 := Aside0.mk (Kd.V_below (by (with_reducible repeat (first | apply Kd.V_alloc | apply Kd.V_drewN | apply Kd.V_drew)); exact HO1.out) hb); replace HO304 := Aside0.mk (Kd.N_below (by (with_reducible repeat (first | apply Kd.N_alloc | apply Kd.N_drewN | apply Kd.N_drew)); exact HO304.out) hb); replace BK301 := Aside0.mk (blk_below (g := gb301) blkz hb); replace HB := Aside0.mk (below_step bel hb); clear hb))
  go_loopg [7, 8] k (fun kq v7 v8 w' => ∃ (x7_1 : List Int) (x8_1 : Int), v8 = .int .i64 x8_1 ∧ Aside0 (dropperref06_Can.l0 kq l1 x7_1 x8_1 a0_0 l0_1 = some (r1, r2)) ∧ Aside0 (kq ≤ k) ∧ Aside0 (Kd.V (Kd.int .i64) 3 w' w.heap.size (fun k_ => (P1_ k_ ∨ w.heap.size ≤ k_) ∧ some k_ ≠ (v7 : Value).ownBlock ∧ k_ ≠ gb301) (.slice A1 l1.length c1) l1) ∧ Aside0 (Kd.R (Kd.int .i64) 3 w' w.heap.size (fun k_ => (w.heap.size ≤ k_)) v7 x7_1) ∧ Aside0 (w'.heap[gb301]? = some (.cells #[.int .i64 a0_0, (.slice A0_1 l0_1.length c0_1)] 24 (0, 0))) ∧ Aside0 (Below w.heap.size w w'))
  case atStart => exact ⟨(([] : List Int)), (0), rsz, H', ⟨Nat.le_refl _⟩, ⟨by (with_reducible repeat (first | apply Kd.V_alloc | apply Kd.V_drewN | apply Kd.V_drew)); exact Kd.V_mono HO1.out (fun _ hk => ⟨hk.1.1, ⟨(by simp [Value.ownBlock]), hk.1.2⟩⟩)⟩, ⟨by first | exact Kd.R_nil _ _ _ _ _ | exact Kd.N_nil _ _ _ _ _ | exact Kd.V_nil _ _ _ _ _ | exact Kd.Q_nil _ _ _ _ _ | exact Kd.S_nil _ _ _ _ _⟩, ⟨blkz⟩, ⟨bel⟩⟩
  case round =>
   clear H'
   (try clear c1); (try clear p2); (try clear c4); (try clear c4b0); (try clear c4b1); (try clear c7); (try clear hcz6_0); (try clear hcz6_1); (try clear hfz6_0); (try clear hfz6_1)
   obtain ⟨x7_1, x8_1, rfl, HA, HK1, HO_1, HO_7, BK301, HB⟩ := hrel
   cases gk with
   | zero => exact absurd HA.out (by simp [dropperref06_Can.l0])
   | succ k1 =>
    have H := HA.out
    clear HA
    simp only [dropperref06_Can.l0] at H
    by_cases c11 : x8_1 < (l0_1.length : Int)
    ·
     rw [if_pos c11] at H
     have c11b0 : decide (x8_1 < (l0_1.length : Int)) = true := decide_eq_true c11
     clear c11
     by_cases c12 : 0 ≤ x8_1
     ·
      rw [if_pos c12] at H
      have c12b0 : decide (0 ≤ x8_1) = true := decide_eq_true c12
      clear c12
      replace H := Option.bind_eq_some_iff.mp H
      obtain ⟨⟨t307, t310⟩, A130, H⟩ := H
      try dsimp only at H
      have A13 := Aside0.mk A130
      clear A130
      by_cases c14 : t310 = true
      ·
       subst c14
       rw [if_pos rfl] at H
       by_cases c15 : x7_1.length < 17592186044416
       ·
        rw [if_pos c15] at H
        have LMc15 := Aside0.mk c15
        clear c15
        obtain ⟨y311, hy311⟩ : ∃ y_ : List Int, y_ = (x7_1 ++ [x8_1]) := ⟨_, rfl⟩
        replace H : (dropperref06_Can.l0 k1 l1 y311 (wrap64 (x8_1 + 1)) a0_0 l0_1) = some (r1, r2) := by first | (rw [hy311]; with_reducible exact H) | (have H2_ := (Option.bind_some _ _).symm.trans H; rw [hy311]; with_reducible exact H2_) | (have H2_ := (Option.bind_some _ _).symm.trans H; with_reducible exact H2_) | with_reducible exact H | (rw [hy311]; exact H) | exact H
        have Ny311 := Aside0.mk hy311
        clear hy311
        have H' := Aside0.mk H
        clear H
        obtain ⟨hcz16_0, hcz16_1⟩ := bc2 BK301.out
        obtain ⟨hfz16_0, hfz16_1⟩ := bf2 BK301.out
        have p306 : 0 ≤ (x8_1 : Int) := of_decide_eq_true asz
        have q306 : x8_1 < (l0_1.length : Int) := of_decide_eq_true asz
        obtain ⟨ad306, A306_0, c306_0, A306_1, c306_1, e306, hx306_0, hx306_1, hl306_0, hi306_0, hl306_1, hi306_1⟩ := at_T64 HR0_1.out x8_1 p306 q306
        cases e306
        replace hx306_0 := (HB.out.cell (World.block_lt_of_cell? w _ hx306_0)).trans hx306_0
        replace hx306_1 := (HB.out.cell (World.block_lt_of_cell? w _ hx306_1)).trans hx306_1
        have HR306_0 := Aside0.mk hi306_0
        have HC306_0 := Aside0.mk hl306_0
        clear hi306_0 hl306_0
        have HR306_1 := Aside0.mk hi306_1
        have HC306_1 := Aside0.mk hl306_1
        clear hi306_1 hl306_1
        replace p306 := eq_true p306
        replace q306 := eq_true q306
        go_wp2_with (first | ((with_reducible refine gate_callee (f := 77) rfl ?_); refine goesL_ (some 32) rfl rfl Try.func77 (by kernel_rfl) rfl #[.agg #[.slice A306_0 ((rd_T64 l0_1 x8_1).f0).length c306_0, .slice A306_1 ((rd_T64 l0_1 x8_1).f1).length c306_1], .slice A1 l1.length c1] rfl mapz ?_; (with_reducible refine (dropperref06_after.calls k1 _ _ ((rd_T64 l0_1 x8_1).f0) _ _ ((rd_T64 l0_1 x8_1).f1) _ _ l1 t307 true _ (cbz HR306_0) HC306_0.out (cbz HR306_1) HC306_1.out ?side5 ?side6 A13.out).mono ?_); (case side5 => repeat (first | exact (Kd.V_reads' HO_1.out).2.2 | (with_reducible refine Kd.C_alloc ?_ _) | (with_reducible refine Kd.C_drewN ?_ _) | (with_reducible refine Kd.C_drew ?_))); (case side6 => exact (Kd.V_reads' HO_1.out).2.1); rintro e w17 ⟨v308, rfl, ho0, hb⟩; refine ⟨_, rfl, ?_⟩; have HO309 := Aside0.mk (Kd.R_lower (Kd.R_new' (Kd.R_newM (M := fun k_ => (w.heap.size ≤ k_)) ho0 (below_size bel) (fun k_ h_ => h_)) (Kd.R_lt (ownx HO_7))) (below_size bel)); replace HO_1 := Aside0.mk (Kd.V_elder' (by (with_reducible repeat (first | apply Kd.V_alloc | apply Kd.V_drewN | apply Kd.V_drew)); exact HO_1.out) (Kd.R_base ho0) hb); replace HO_7 := Aside0.mk (Kd.R_elder' (ownx HO_7) (Kd.R_base ho0) hb); replace BK301 := Aside0.mk (blk_below (g := gb301) blkz hb); replace HB := Aside0.mk (below_step bel hb); (try clear hb); (try clear hb2); (try clear hk); (try clear hi); (try clear ho0)) | ((with_reducible refine gate_builtin (b := .append) (xs := #[.tmp 36, .tmp 38]) rfl ?_); at_builtin; refine Kd.R_append (Kd.int .i64) (w0 := w) w.heap.size rfl (.tmp 36) (.tmp 38) 25 3 (.int .i64 0) 8 rfl Try.underlying25 info3 rfl (by decide) (by omega) u7 x7_1 x8_1 [.int .i64 x8_1] (fun k_ => (w.heap.size ≤ k_) ∧ some k_ ≠ (v308 : Value).ownBlock) (fun _ => False) rfl rfl ?aP (fun _ hk => hk.elim) ?aF ?aO ?aB ?aS ?aL ?_; (case aP => exact rfl); (case aB => exact bel); (case aF => exact (fun k_ hk => ⟨(Nat.le_trans (below_size bel) hk), Kd.fresh' (Kd.R_lt (ownx HO309)) k_ hk⟩)); (case aO => exact (ownx HO_7)); (case aS => exact (below_size bel)); (case aL => have := LMc15.out; omega); intro v312 w18 ho hb hg hat; rw [← Ny311.out] at ho; have n0_ := Aside0.mk (Kd.V_afterv (ok := (fun k_ => (P1_ k_ ∨ w.heap.size ≤ k_) ∧ some k_ ≠ (v308 : Value).ownBlock ∧ k_ ≠ gb301)) (by (with_reducible repeat (first | apply Kd.V_alloc | apply Kd.V_drewN | apply Kd.V_drew)); exact Kd.V_mono HO_1.out (fun _ hk => ⟨⟨hk.1.1, ⟨hk.2, hk.1.2.2⟩⟩, hk.1.2.1⟩)) hg hat); have n1_ := Aside0.mk (blk_grown (g := gb301) (o := .cells #[.int .i64 a0_0, .slice (some ad306) l0_1.length c0_1] 24 (0, 0)) blkz hg (Kd.R_ne HO_7.out BK301.out (by decide))); have n2_ := Aside0.mk (Kd.R_after (ok := (fun k_ => (w.heap.size ≤ k_))) (by (with_reducible repeat (first | apply Kd.R_alloc | apply Kd.R_drewN | apply Kd.R_drew)); exact Kd.R_mono HO309.out (fun _ hk => ⟨hk.1.1, hk.2⟩)) hg hat); have n3_ := Aside0.mk (hb); have n4_ := Aside0.mk (ho); clear HO_1; clear BK301; clear HO309; clear HB; clear HO_7; have HO_1 := n0_; have BK301 := n1_; have HO309 := n2_; have HB := n3_; have HO313 := n4_; clear n0_ n1_ n2_ n3_ n4_; clear ho hb hg hat))
        go_roundg k1
        case measure => have := HK1.out; omega
        case rel => exact ⟨(y311), (wrap64 (x8_1 + 1)), rsz, H', ⟨by have := HK1.out; omega⟩, ⟨by (with_reducible repeat (first | apply Kd.V_alloc | apply Kd.V_drewN | apply Kd.V_drew)); exact Kd.V_mono HO_1.out (fun _ hk => ⟨hk.1.1, ⟨hk.2, hk.1.2.2⟩⟩)⟩, ⟨by (with_reducible repeat (first | apply Kd.R_alloc | apply Kd.R_drewN | apply Kd.R_drew)); exact Kd.R_mono HO313.out (fun _ hk => hk.1)⟩, ⟨blkz⟩, ⟨bel⟩⟩
       ·
        rw [if_neg c15] at H
        exact absurd H (by simp)
      ·
       replace c14 := Bool.eq_false_iff.mpr c14
       subst c14
       rw [if_neg (show ¬ (false = true) by decide)] at H
       have H' := Aside0.mk H
       clear H
       obtain ⟨hcz19_0, hcz19_1⟩ := bc2 BK301.out
       obtain ⟨hfz19_0, hfz19_1⟩ := bf2 BK301.out
       have p306 : 0 ≤ (x8_1 : Int) := of_decide_eq_true asz
       have q306 : x8_1 < (l0_1.length : Int) := of_decide_eq_true asz
       obtain ⟨ad306, A306_0, c306_0, A306_1, c306_1, e306, hx306_0, hx306_1, hl306_0, hi306_0, hl306_1, hi306_1⟩ := at_T64 HR0_1.out x8_1 p306 q306
       cases e306
       replace hx306_0 := (HB.out.cell (World.block_lt_of_cell? w _ hx306_0)).trans hx306_0
       replace hx306_1 := (HB.out.cell (World.block_lt_of_cell? w _ hx306_1)).trans hx306_1
       have HR306_0 := Aside0.mk hi306_0
       have HC306_0 := Aside0.mk hl306_0
       clear hi306_0 hl306_0
       have HR306_1 := Aside0.mk hi306_1
       have HC306_1 := Aside0.mk hl306_1
       clear hi306_1 hl306_1
       replace p306 := eq_true p306
       replace q306 := eq_true q306
       go_wp2_with (first | ((with_reducible refine gate_callee (f := 77) rfl ?_); refine goesL_ (some 32) rfl rfl Try.func77 (by kernel_rfl) rfl #[.agg #[.slice A306_0 ((rd_T64 l0_1 x8_1).f0).length c306_0, .slice A306_1 ((rd_T64 l0_1 x8_1).f1).length c306_1], .slice A1 l1.length c1] rfl mapz ?_; (with_reducible refine (dropperref06_after.calls k1 _ _ ((rd_T64 l0_1 x8_1).f0) _ _ ((rd_T64 l0_1 x8_1).f1) _ _ l1 t307 false _ (cbz HR306_0) HC306_0.out (cbz HR306_1) HC306_1.out ?side5 ?side6 A13.out).mono ?_); (case side5 => repeat (first | exact (Kd.V_reads' HO_1.out).2.2 | (with_reducible refine Kd.C_alloc ?_ _) | (with_reducible refine Kd.C_drewN ?_ _) | (with_reducible refine Kd.C_drew ?_))); (case side6 => exact (Kd.V_reads' HO_1.out).2.1); rintro e w20 ⟨v308, rfl, ho0, hb⟩; refine ⟨_, rfl, ?_⟩; have HO309 := Aside0.mk (Kd.R_lower (Kd.R_new' (Kd.R_newM (M := fun k_ => (w.heap.size ≤ k_)) ho0 (below_size bel) (fun k_ h_ => h_)) (Kd.R_lt (ownx HO_7))) (below_size bel)); replace HO_1 := Aside0.mk (Kd.V_elder' (by (with_reducible repeat (first | apply Kd.V_alloc | apply Kd.V_drewN | apply Kd.V_drew)); exact HO_1.out) (Kd.R_base ho0) hb); replace HO_7 := Aside0.mk (Kd.R_elder' (ownx HO_7) (Kd.R_base ho0) hb); replace BK301 := Aside0.mk (blk_below (g := gb301) blkz hb); replace HB := Aside0.mk (below_step bel hb); (try clear hb); (try clear hb2); (try clear hk); (try clear hi); (try clear ho0)))
       go_roundg k1
       case measure => have := HK1.out; omega
       case rel => exact ⟨(x7_1), (wrap64 (x8_1 + 1)), rsz, H', ⟨by have := HK1.out; omega⟩, ⟨by (with_reducible repeat (first | apply Kd.V_alloc | apply Kd.V_drewN | apply Kd.V_drew)); exact Kd.V_mono HO_1.out (fun _ hk => ⟨hk.1.1, ⟨hk.1.2.1, hk.1.2.2⟩⟩)⟩, ⟨by (with_reducible repeat (first | apply Kd.R_alloc | apply Kd.R_drewN | apply Kd.R_drew)); exact Kd.R_mono HO_7.out (fun _ hk => hk.1)⟩, ⟨blkz⟩, ⟨bel⟩⟩
     ·
      rw [if_neg c12] at H
      exact absurd H (by simp)
    ·
     rw [if_neg c11] at H
     have c11b0 : decide (x8_1 < (l0_1.length : Int)) = false := decide_eq_false c11
     clear c11
     simp only [Option.some.injEq, Prod.mk.injEq] at H
     obtain ⟨rfl, rfl⟩ := H
     obtain ⟨hcz21_0, hcz21_1⟩ := bc2 BK301.out
     obtain ⟨hfz21_0, hfz21_1⟩ := bf2 BK301.out
     go_wp2
     go_ret2
     exact ⟨_, ezz, by (with_reducible repeat (first | apply Kd.R_alloc | apply Kd.R_drewN | apply Kd.R_drew)); exact HO_7.out, bel⟩
 ·
  rw [if_neg c4] at H
  have c4b0 : (t305 == 0) = false := beq_eq_false_iff_ne.mpr c4
  have c4b1 : (t305 != 0) = true := bne_iff_ne.mpr c4
  simp only [Option.some.injEq, Prod.mk.injEq] at H
  obtain ⟨rfl, rfl⟩ := H
  go_enter Try.func40, Try.ntmps40
  go_wp2_with (first | ((with_reducible refine gate_dst (N := 2) rfl ?_); refine box_event ?hg (N := 2) ?hd (cs := #[.int .i64 a0_0, .slice A0_1 l0_1.length c0_1]) (t := 24) ?hr ?_; (case hd => rfl); (case hg => rfl); (case hr => first | (go_simp; done) | (go_simp; rfl)); intro gb301 hg w22 hbox hb; have BK301 := Aside0.mk (hbox); have GW301 := bsz (w := w) hg; have GE301 := GW301; replace HO1 := Aside0.mk (Kd.V_below (Kd.V_elderB (by (with_reducible repeat (first | apply Kd.V_alloc | apply Kd.V_drewN | apply Kd.V_drew)); exact HO1.out) gb301 (Nat.le_of_eq hg.symm)) hb); replace HB := Aside0.mk (below_step bel hb); clear hb hbox hg; obtain ⟨hcz23_0, hcz23_1⟩ := bc2 BK301.out) | ((with_reducible refine gate_dst (N := 13) rfl ?_); refine Kd.N_lit (Kd.slice 3 (Kd.int .i64)) _ 25 ?hg (N' := 13) ?hd (xs := ([l1] : List (List Int))) (inner := [.slice A1 l1.length c1]) (ok := (fun k_ => (P1_ k_ ∨ w.heap.size ≤ k_) ∧ k_ ≠ gb301)) (okp := (fun k_ => (P1_ k_ ∨ w.heap.size ≤ k_) ∧ k_ ≠ gb301)) ?hr ?hp (fun _ hk => hk) ((show ∀ k_, w22.heap.size ≤ k_ → (fun k_ => (P1_ k_ ∨ w.heap.size ≤ k_) ∧ k_ ≠ gb301) k_ from fun k_ hk => ⟨(.inr (Nat.le_trans (below_size bel) hk)), Kd.freshB (g := gb301) (o := .cells #[.int .i64 a0_0, .slice A0_1 l0_1.length c0_1] 24 (0, 0)) blkz k_ hk⟩) _ (Nat.le_refl _)) (Below.refl _ _) (Nat.le_refl _) (by simp) ?_; (case hd => rfl); (case hg => rfl); (case hr => first | (go_simp; done) | (go_simp; rfl)); (case hp => exact (Reps.one (show Kd.FK (Kd.slice 3 (Kd.int .i64)) _ _ l1 [.slice A1 l1.length c1] from (Kd.FK_slice_mk (Kd.V_reads' (Kd.V_mono (ok' := (fun k_ => (P1_ k_ ∨ w.heap.size ≤ k_) ∧ k_ ≠ gb301)) (HO1.out) (fun k_ hk => ⟨hk.1, hk.2⟩))).2.1 (Kd.V_F (Kd.V_mono (ok' := (fun k_ => (P1_ k_ ∨ w.heap.size ≤ k_) ∧ k_ ≠ gb301)) (HO1.out) (fun k_ hk => ⟨hk.1, hk.2⟩))))) (Reps.none _ _))); intro v303 w24 ho25 hb hg_ hnew_; clear hg_ hnew_; (first | rw [← Ny302.out] at ho25 | (simp only [Int.reduceToNat] at ho25; rw [← Ny302.out] at ho25)); have HO304 := Aside0.mk (Kd.N_lower ho25 (below_size bel)); replace HO1 := Aside0.mk (Kd.V_elder' (by (with_reducible repeat (first | apply Kd.V_alloc | apply Kd.V_drewN | apply Kd.V_drew)); exact HO1.out) (Kd.N_base ho25) hb); replace BK301 := Aside0.mk (blk_below (g := gb301) blkz hb); replace HB := Aside0.mk (below_step bel hb); clear hb ho25; obtain ⟨Ao26, co26, eo26⟩ := Kd.N_slice HO304.out; subst eo26) | ((with_reducible refine gate_callee (f := 72) rfl ?_); refine goesL_ (some 14) rfl rfl Try.func72 (by kernel_rfl) rfl #[.agg #[.int .i64 a0_0, .slice A0_1 l0_1.length c0_1], .slice Ao26 y302.length co26] rfl mapz ?_; (with_reducible refine (dropperref06_asked.calls k a0_0 _ _ l0_1 _ _ y302 t305 _ (cbz HR0_1) HC0_1.out ?side3 ?side4 A3.out).mono ?_); (case side3 => repeat (first | exact (Kd.N_reads' HO304.out).2.2 | (with_reducible refine Kd.C_alloc ?_ _) | (with_reducible refine Kd.C_drewN ?_ _) | (with_reducible refine Kd.C_drew ?_))); (case side4 => exact (Kd.N_reads' HO304.out).2.1); rintro e w27 ⟨rfl, hb⟩; refine ⟨_, rfl, ?_⟩; replace HO1 := Aside0.mk (Kd.V_below (by (with_reducible repeat (first | apply Kd.V_alloc | apply Kd.V_drewN | apply Kd.V_drew)); exact HO1.out) hb); replace HO304 := Aside0.mk (Kd.N_below (by (with_reducible repeat (first | apply Kd.N_alloc | apply Kd.N_drewN | apply Kd.N_drew)); exact HO304.out) hb); replace BK301 := Aside0.mk (blk_below (g := gb301) blkz hb); replace HB := Aside0.mk (below_step bel hb); clear hb))
  go_ret2
  exact ⟨_, ezz, by first | exact Kd.R_nil _ _ _ _ _ | exact Kd.N_nil _ _ _ _ _ | exact Kd.V_nil _ _ _ _ _ | exact Kd.Q_nil _ _ _ _ _ | exact Kd.S_nil _ _ _ _ _, bel⟩

end Go.Proofs.Ytgdfakmlpdeabaa.XKey