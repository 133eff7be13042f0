-- Written by wip/pack.py of this repo: texts of this claim, put together.
import Derived.Test.YtgdfakmlpdeabaaKKeyWaysd
namespace Go.Proofs.Ytgdfakmlpdeabaa.XKey
open Go.RowKit Go.Proofs.YtgdfakmlpdeabaaW.PrintWords Go.Proofs.YtgdfakmlpdeabaaW.PrintLast Go.Proofs.YtgdfakmlpdeabaaW.PrintMore
attribute [local go_sem] max2_int min2_int max_two min_two max_three min_three max_four min_four   -- for this text's walks alone
set_option linter.unusedVariables false
set_option linter.unusedSimpArgs false
/-! ### dropperref06_found: function 74 -/
mutual
def dropperref06_found.l0 : Nat → List S87 → List ByteArray → Int → Int → List S64 → Option (List S87 × Bool)
 | 0, _, _, _, _, _ => none
 | k + 1, x6, q, x8, x238000, x238001 => if x8 < (x6.length : Int) then (dropperref06_found.l1 k x6 q x8 0 x238000 x238001) else (some (x6, true))
def dropperref06_found.l1 : Nat → List S87 → List ByteArray → Int → Int → Int → List S64 → Option (List S87 × Bool)
 | 0, _, _, _, _, _, _ => none
 | k + 1, x6, q, x8, x9, x238000, x238001 => if x9 < (x238001.length : Int) then (if 0 ≤ x9 then (if 0 ≤ x8 then (if x8 < (x6.length : Int) then ((dropperref06_after.f k ((rd_T64 x238001 x9).f0) ((rd_T64 x238001 x9).f1) ((rd_T87 x6 x8).f0)).bind fun bt245 => (if bt245.2 = true then ((dropperref06_text.f k bt245.1).bind fun t249 => (if t249.size ≤ 10000 then (dropperref06_found.j2 k x6 q x8 x9 bt245.1 (inT t249 q) x238000 x238001) else (none))) else (dropperref06_found.j2 k x6 q x8 x9 bt245.1 true x238000 x238001))) else (none)) else (none)) else (none)) else (dropperref06_found.l0 k x6 q (wrap64 (x8 + 1)) x238000 x238001)
def dropperref06_found.j2 : Nat → List S87 → List ByteArray → Int → Int → List Int → Bool → Int → List S64 → Option (List S87 × Bool)
 | 0, _, _, _, _, _, _, _, _ => none
 | k + 1, x6, q, x8, x9, x10, x53, x238000, x238001 => if x53 = true then (dropperref06_found.l1 k x6 q x8 (wrap64 (x9 + 1)) x238000 x238001) else (if (x6.length : Int) = 300 then (some (([] : List S87), false)) else ((dropperref06_text.f k x10).bind fun t250 => (if t250.size ≤ 10000 ∧ q.length < 10000 then ((some (([] : List Int) : List Int)).bind fun y251 => (if 0 ≤ x8 then (if x8 < (x6.length : Int) then (if y251.length + ((rd_T87 x6 x8).f1).length < 17592186044416 then ((some (y251 ++ ((rd_T87 x6 x8).f1) : List Int)).bind fun y255 => (if y255.length < 17592186044416 then (if x6.length < 2932031007402 then (dropperref06_found.l1 k (x6 ++ [(⟨x10, (y255 ++ [x9])⟩ : S87)]) (t250 :: q) x8 (wrap64 (x9 + 1)) x238000 x238001) else (none)) else (none))) else (none)) else (none)) else (none))) else (none))))
end
def dropperref06_found.f (k : Nat) (a0_0 : Int) (l0_1 : List S64) (l1 : List Int) : Option (List S87 × Bool) := (dropperref06_text.f k l1).bind fun t241 => (if t241.size ≤ 10000 then (dropperref06_found.l0 k (([(⟨l1, ([] : List Int)⟩ : S87)] : List S87)) [t241] 0 a0_0 l0_1) else (none))
def dropperref06_found.T9 : Bool × List (List Nat × List Nat) := (true, [([], []), ([0], [0]), ([], []), ([1, 2], [1, 2]), ([3], [3]), ([], []), ([], []), ([5, 6], [5, 6]), ([7], [7]), ([8], [8]), ([4, 9], [4, 9]), ([10], [10]), ([11], [11]), ([11], [11]), ([12, 10, 0, 1, 2, 3, 4, 5, 6, 7, 8, 9, 10, 11, 12], [12]), ([13, 14, 0, 1, 2, 3, 4, 5, 6, 7, 8, 9, 10, 11, 12, 13, 14], [13])])
def dropperref06_found.B9 : List Nat := [0, 1, 0, 7, 15, 0, 0, 96, 224, 480, 1023, 2047, 4095, 4095, 8191, 32767]
theorem dropperref06_found.tab9 : rtab .any (opsOf Try.f74 9) = dropperref06_found.T9 := by kernel_rfl
theorem dropperref06_found.bits9 : waitsOk dropperref06_found.T9.2 dropperref06_found.B9 = true := by kernel_rfl
set_option maxHeartbeats 8000000 in
set_option maxRecDepth 100000 in
theorem dropperref06_found.calls (k : Nat) (a0_0 : Int) (A0_1 : Option Addr) (c0_1 : Nat) (l0_1 : List (S64)) (P1_ : Nat → Prop) (A1 : Option Addr) (c1 : Nat) (l1 : List Int) (r1 : List (S87)) (r2 : Bool) (w : World) (hr0_1 : Kd.C k64 w A0_1 l0_1.length l0_1) (hc0_1 : l0_1.length ≤ c0_1) (hs1 : Kd.V (Kd.int .i64) 3 w w.heap.size (fun k_ => P1_ k_) (.slice A1 l1.length c1) l1) (h : dropperref06_found.f k a0_0 l0_1 l1 = some (r1, r2)) :
  Calls Try.prog 74 #[.agg #[.int .i64 a0_0, .slice A0_1 l0_1.length c0_1], .slice A1 l1.length c1] w fun e w' => ∃ v0_ : Value, e = .returned (.tuple #[v0_, .bool r2]) ∧ Kd.N k87 87 w' w.heap.size (fun k_ => (P1_ k_ ∨ w.heap.size ≤ k_)) v0_ r1 ∧ Below w.heap.size w w' := by
 have hu24 := Try.underlying24
 have hu87 := Try.underlying87
 have hu64 := Try.underlying64
 have HR0_1 := Aside0.mk hr0_1
 have HC0_1 := Aside0.mk hc0_1
 clear hr0_1 hc0_1
 have HO1 := Aside0.mk (show Kd.V (Kd.int .i64) 3 w w.heap.size (fun k_ => (P1_ k_ ∨ w.heap.size ≤ k_)) (.slice A1 l1.length c1) l1 from Kd.V_mono hs1 (fun k_ hk => .inl hk))
 have HB := Aside0.mk (Below.refl w.heap.size w)
 have H : ((dropperref06_text.f k l1).bind fun t241 => (if t241.size ≤ 10000 then (dropperref06_found.l0 k (([(⟨l1, ([] : List Int)⟩ : S87)] : List (S87))) [t241] 0 a0_0 l0_1) else (none))) = some (r1, r2) := h
 clear h
 obtain ⟨y238, hy238⟩ : ∃ y_ : List (S87), y_ = (([(⟨l1, ([] : List Int)⟩ : S87)] : List (S87))) := ⟨_, rfl⟩
 replace H : ((dropperref06_text.f k l1).bind fun t241 => (if t241.size ≤ 10000 then (dropperref06_found.l0 k y238 [t241] 0 a0_0 l0_1) else (none))) = some (r1, r2) := by first | (rw [hy238]; with_reducible exact H) | (have H2_ := (Option.bind_some _ _).symm.trans H; rw [hy238]; with_reducible exact H2_) | (have H2_ := (Option.bind_some _ _).symm.trans H; with_reducible exact H2_) | with_reducible exact H | (rw [hy238]; exact H) | exact H
 have Ny238 := Aside0.mk hy238
 clear hy238
 replace H := Option.bind_eq_some_iff.mp H
 obtain ⟨t241, A30, H⟩ := H
 try dsimp only at H
 have A3 := Aside0.mk A30
 clear A30
 by_cases cq3 : ¬ t241.size ≤ 10000
 ·
  rw [if_neg cq3] at H; exact absurd H (by simp)
 replace cq3 := Decidable.not_not.1 cq3
 rw [if_pos cq3] at H
 have CQ3 := Aside0.mk cq3
 clear cq3
 have hu113 := Try.underlying113
 have H' := Aside0.mk H
 clear H
 go_enter Try.func74, Try.ntmps74
 go_wp2_with (first | ((with_reducible refine gate_dst (N := 2) rfl ?_); refine box_event ?hg (N := 2) ?hd (cs := #[.int .i64 a0_0, .slice A0_1 l0_1.length c0_1]) (t := 24) ?hr ?_; (case hd => rfl); (case hg => rfl); (case hr => first | (go_simp; done) | (go_simp; rfl)); intro gb237 hg w4 hbox hb; have BK237 := Aside0.mk (hbox); have GW237 := bsz (w := w) hg; have GE237 := GW237; replace HO1 := Aside0.mk (Kd.V_below (Kd.V_elderB (by (with_reducible repeat (first | apply Kd.V_alloc | apply Kd.V_drewN | apply Kd.V_drew)); exact HO1.out) gb237 (Nat.le_of_eq hg.symm)) hb); replace HB := Aside0.mk (below_step bel hb); clear hb hbox hg) | ((with_reducible refine gate_dst (N := 14) rfl ?_); refine Kd.N_lit k87 _ 87 ?hg (N' := 14) ?hd (xs := ([(⟨l1, ([] : List Int)⟩ : S87)] : List (S87))) (inner := [.slice A1 l1.length c1, .slice none 0 0]) (ok := (fun k_ => (P1_ k_ ∨ w.heap.size ≤ k_) ∧ k_ ≠ gb237)) (okp := (fun k_ => (P1_ k_ ∨ w.heap.size ≤ k_) ∧ k_ ≠ gb237)) ?hr ?hp (fun _ hk => hk) ((show ∀ k_, w4.heap.size ≤ k_ → (fun k_ => (P1_ k_ ∨ w.heap.size ≤ k_) ∧ k_ ≠ gb237) k_ from fun k_ hk => ⟨(.inr (Nat.le_trans (below_size bel) hk)), Kd.freshB (g := gb237) (o := .cells #[.int .i64 a0_0, .slice A0_1 l0_1.length c0_1] 24 (0, 0)) blkz k_ hk⟩) _ (Nat.le_refl _)) (Below.refl _ _) (Nat.le_refl _) (by simp) ?_; (case hd => rfl); (case hg => rfl); (case hr => first | (go_simp; done) | (go_simp; rfl)); (case hp => exact (Reps.c2 (show Kd.FK k87 _ _ (⟨l1, ([] : List Int)⟩ : S87) [.slice A1 l1.length c1, .slice none 0 0] from (k87_mkF _ _ (⟨l1, ([] : List Int)⟩ : S87) (Kd.V_reads' (Kd.V_mono (ok' := (fun k_ => (P1_ k_ ∨ w.heap.size ≤ k_) ∧ k_ ≠ gb237)) (HO1.out) (fun k_ hk => ⟨hk.1, hk.2⟩))).2.1 (Kd.V_F (Kd.V_mono (ok' := (fun k_ => (P1_ k_ ∨ w.heap.size ≤ k_) ∧ k_ ≠ gb237)) (HO1.out) (fun k_ hk => ⟨hk.1, hk.2⟩))) (Nat.le_refl _) (Kd.F_nil _ _ _))) (Reps.none _ _))); intro v239 w5 ho6 hb hg_ hnew_; clear hg_ hnew_; (first | rw [← Ny238.out] at ho6 | (simp only [Int.reduceToNat] at ho6; rw [← Ny238.out] at ho6)); have HO240 := Aside0.mk (Kd.N_lower ho6 (below_size bel)); replace HO1 := Aside0.mk (Kd.V_elder' (by (with_reducible repeat (first | apply Kd.V_alloc | apply Kd.V_drewN | apply Kd.V_drew)); exact HO1.out) (Kd.N_base ho6) hb); replace BK237 := Aside0.mk (blk_below (g := gb237) blkz hb); replace HB := Aside0.mk (below_step bel hb); clear hb ho6) | ((with_reducible refine gate_callee (f := 98) rfl ?_); refine goesL_ (some 17) rfl rfl Try.func98 (by kernel_rfl) rfl #[.slice A1 l1.length c1] rfl mapz ?_; (with_reducible refine (dropperref06_text.calls k _ _ l1 t241 _ ?side1 ?side2 A3.out).mono ?_); (case side1 => repeat (first | exact (Kd.V_reads' HO1.out).2.2 | (with_reducible refine Kd.C_alloc ?_ _) | (with_reducible refine Kd.C_drewN ?_ _) | (with_reducible refine Kd.C_drew ?_))); (case side2 => exact (Kd.V_reads' HO1.out).2.1); rintro e w' ⟨rfl, ⟨nd, rfl⟩⟩; refine ⟨_, rfl, ?_⟩) | ((with_reducible refine gate_dst (N := 15) rfl ?_); refine tset_make rfl rfl 9 4 ?_; intro gb242 w7 hg hm hb; have BK242 := Aside0.mk hm; have GW242 := bsz (w := w) hg; have GE242 := GW242; have NB237_242 := neL (g := gb237) hg; have NB242_237 := neR (g := gb237) hg; replace HO1 := Aside0.mk (Kd.V_below (Kd.V_elderB (by (with_reducible repeat (first | apply Kd.V_alloc | apply Kd.V_drewN | apply Kd.V_drew)); exact HO1.out) gb242 (Nat.le_of_eq hg.symm)) hb); replace HO240 := Aside0.mk (Kd.N_below (Kd.N_elderB (by (with_reducible repeat (first | apply Kd.N_alloc | apply Kd.N_drewN | apply Kd.N_drew)); exact HO240.out) gb242 (Nat.le_of_eq hg.symm)) hb); replace BK237 := Aside0.mk (blk_below (g := gb237) blkz hb); replace HB := Aside0.mk (below_step bel hb); clear hb hm hg) | ((with_reducible refine gate_insert (t := 113) (m := .tmp 15) (x := .tmp 17) (v := .const (.bool true)) rfl ?_); refine tset_store (t := 113) rfl (.tmp 15) (.tmp 17) (.const (.bool true)) (.inr rfl) rfl t241 rfl rfl (by (with_reducible repeat (first | apply TSet.alloc | apply TSet.drewN | apply TSet.drew)); exact BK242.out) Try.underlying9 Try.underlying113 Try.underlying4 (by simp [maxLen]) (Nat.le_trans CQ3.out (by decide)) ?_; intro w8 hm hg; have n0_ := Aside0.mk (Kd.N_grown (w1 := w8) (by (with_reducible repeat (first | apply Kd.N_alloc | apply Kd.N_drewN | apply Kd.N_drew)); exact HO240.out) hg (fun k_ hk e_ => by injection e_ with e_; first | exact hk.2 e_ | exact hk.2.2 e_)); have n1_ := Aside0.mk (blk_grown (g := gb237) (o := .cells #[.int .i64 a0_0, .slice A0_1 l0_1.length c0_1] 24 (0, 0)) blkz hg (TSet.ne_box BK242.out BK237.out)); have n2_ := Aside0.mk (Below.grown (show Below w.heap.size w _ from bel) hg (below_size bel) (fun j_ hj_ => by injection hj_ with hj_; rw [← hj_]; exact GW242.out)); clear HO240 BK237 HB BK242; have HO240 := n0_; have BK237 := n1_; have HB := n2_; have BK242 := Aside0.mk hm; clear n0_ n1_ n2_ hm hg))
 go_loopg [6, 8] k (fun kq v6 v8 w' => ∃ (x6_1 : List (S87)) (q_1 : List ByteArray) (x8_1 : Int), v8 = .int .i64 x8_1 ∧ Aside0 (dropperref06_found.l0 kq x6_1 q_1 x8_1 a0_0 l0_1 = some (r1, r2)) ∧ Aside0 (kq ≤ k) ∧ Aside0 (Kd.N k87 87 w' w.heap.size (fun k_ => (P1_ k_ ∨ w.heap.size ≤ k_) ∧ k_ ≠ gb237 ∧ k_ ≠ gb242) v6 x6_1) ∧ Aside0 (w'.heap[gb237]? = some (.cells #[.int .i64 a0_0, (.slice A0_1 l0_1.length c0_1)] 24 (0, 0))) ∧ Aside0 (TSet Try.prog 9 4 w' gb242 q_1) ∧ Aside0 (Below w.heap.size w w'))
 case atStart => exact ⟨(y238), [t241], (0), rsz, H', ⟨Nat.le_refl _⟩, ⟨by (with_reducible repeat (first | apply Kd.N_alloc | apply Kd.N_drewN | apply Kd.N_drew)); exact Kd.N_mono HO240.out (fun _ hk => ⟨hk.1.1, ⟨hk.1.2, hk.2⟩⟩)⟩, ⟨blkz⟩, ⟨by (with_reducible repeat (first | apply TSet.alloc | apply TSet.drewN | apply TSet.drew)); exact BK242.out⟩, ⟨bel⟩⟩
 case round =>
  clear H'
  (try clear c1); (try clear c2); (try clear p2); (try clear c7)
  obtain ⟨x6_1, q_1, x8_1, rfl, HA, HK1, HO_6, BK237, BK242, HB⟩ := hrel
  cases gk with
  | zero => exact absurd HA.out (by simp [dropperref06_found.l0])
  | succ k1 =>
   have H := HA.out
   clear HA
   simp only [dropperref06_found.l0] at H
   by_cases c8 : x8_1 < (x6_1.length : Int)
   ·
    rw [if_pos c8] at H
    have c8b0 : decide (x8_1 < (x6_1.length : Int)) = true := decide_eq_true c8
    clear c8
    have H' := Aside0.mk H
    clear H
    obtain ⟨Ao9, co9, eo9⟩ := Kd.N_slice HO_6.out
    subst eo9
    go_wp2
    go_loopg [6, 9] k1 (fun kq v6 v9 w' => ∃ (x6_2 : List (S87)) (q_2 : List ByteArray) (x9_2 : Int), v9 = .int .i64 x9_2 ∧ Aside0 (dropperref06_found.l1 kq x6_2 q_2 x8_1 x9_2 a0_0 l0_1 = some (r1, r2)) ∧ Aside0 (kq ≤ k1) ∧ Aside0 (Kd.N k87 87 w' w.heap.size (fun k_ => (P1_ k_ ∨ w.heap.size ≤ k_) ∧ k_ ≠ gb237 ∧ k_ ≠ gb242) v6 x6_2) ∧ Aside0 (w'.heap[gb237]? = some (.cells #[.int .i64 a0_0, (.slice A0_1 l0_1.length c0_1)] 24 (0, 0))) ∧ Aside0 (TSet Try.prog 9 4 w' gb242 q_2) ∧ Aside0 (Below w.heap.size w w'))
    case atStart => exact ⟨(x6_1), q_1, (0), rsz, H', ⟨Nat.le_refl _⟩, ⟨by (with_reducible repeat (first | apply Kd.N_alloc | apply Kd.N_drewN | apply Kd.N_drew)); exact HO_6.out⟩, ⟨blkz⟩, ⟨by (with_reducible repeat (first | apply TSet.alloc | apply TSet.drewN | apply TSet.drew)); exact BK242.out⟩, ⟨bel⟩⟩
    case round =>
     clear H'
     (try clear c1); (try clear c2); (try clear p2); (try clear c7); (try clear c8); (try clear c8b0); (try clear c9); (try clear p2)
     obtain ⟨x6_2, q_2, x9_2, rfl, HA, HK2, HO_6, BK237, BK242, HB⟩ := hrel
     cases gk with
     | zero => exact absurd HA.out (by simp [dropperref06_found.l1])
     | succ k2 =>
      have H := HA.out
      clear HA
      simp only [dropperref06_found.l1] at H
      by_cases c10 : x9_2 < (l0_1.length : Int)
      ·
       rw [if_pos c10] at H
       have c10b0 : decide (x9_2 < (l0_1.length : Int)) = true := decide_eq_true c10
       clear c10
       by_cases c11 : 0 ≤ x9_2
       ·
        rw [if_pos c11] at H
        have c11b0 : decide (0 ≤ x9_2) = true := decide_eq_true c11
        clear c11
        by_cases c12 : 0 ≤ x8_1
        ·
         rw [if_pos c12] at H
         have c12b0 : decide (0 ≤ x8_1) = true := decide_eq_true c12
         clear c12
         by_cases c13 : x8_1 < (x6_2.length : Int)
         ·
          rw [if_pos c13] at H
          have c13b0 : decide (x8_1 < (x6_2.length : Int)) = true := decide_eq_true c13
          clear c13
          replace H := Option.bind_eq_some_iff.mp H
          obtain ⟨⟨t245, t248⟩, A140, H⟩ := H
          try dsimp only at H
          have A14 := Aside0.mk A140
          clear A140
          have HC15 := Aside0.mk H
          clear H
          have hnb16 := NB237_242.out
          have hnc16 := NB242_237.out
          obtain ⟨hcz17_0, hcz17_1⟩ := bc2 BK237.out
          obtain ⟨hfz17_0, hfz17_1⟩ := bf2 BK237.out
          try go_wp2
          have n0_ := Aside0.mk (Kd.N_drew HO_6.out)
          have n1_ := Aside0.mk (blk_drew BK237.out)
          have n2_ := Aside0.mk (TSet.drew BK242.out)
          have n3_ := Aside0.mk (below_drew1 HB.out)
          clear HO_6
          clear BK237
          clear BK242
          clear HB
          have HO_6 := n0_
          have BK237 := n1_
          have BK242 := n2_
          have HB := n3_
          clear n0_ n1_ n2_ n3_
          have p243 : 0 ≤ (x9_2 : Int) := of_decide_eq_true asz
          have q243 : x9_2 < (l0_1.length : Int) := of_decide_eq_true asz
          obtain ⟨ad243, A243_0, c243_0, A243_1, c243_1, e243, hx243_0, hx243_1, hl243_0, hi243_0, hl243_1, hi243_1⟩ := at_T64 HR0_1.out x9_2 p243 q243
          have hw243_1 := hx243_1
          have hw243_0 := hx243_0
          cases e243
          replace hx243_0 := (HB.out.cell (World.block_lt_of_cell? w _ hx243_0)).trans hx243_0
          replace hx243_1 := (HB.out.cell (World.block_lt_of_cell? w _ hx243_1)).trans hx243_1
          have HR243_0 := Aside0.mk hi243_0
          have HC243_0 := Aside0.mk hl243_0
          clear hi243_0 hl243_0
          have HR243_1 := Aside0.mk hi243_1
          have HC243_1 := Aside0.mk hl243_1
          clear hi243_1 hl243_1
          replace p243 := eq_true p243
          replace q243 := eq_true q243
          obtain ⟨Ao19, co19, eo19⟩ := Kd.N_slice HO_6.out
          (first | subst eo19 | (injection eo19 with f1_ f2_ f3_; have f4_ := f1_.symm; have f5_ := f3_.symm; clear f1_ f2_ f3_; subst f4_; subst f5_))
          have p244 : 0 ≤ (x8_1 : Int) := of_decide_eq_true asz
          have q244 : x8_1 < (x6_2.length : Int) := of_decide_eq_true asz
          obtain ⟨ad244, A244_0, c244_0, A244_1, c244_1, e244, hx244_0, hx244_1, hl244_0, hi244_0, hl244_1, hi244_1⟩ := at_T87 (Kd.N_reads' HO_6.out).2.2 x8_1 p244 q244
          cases e244
          obtain ⟨ce244, hce244, hMe244, hcc244⟩ := Kd.N_get HO_6.out z87 x8_1 p244 (by first | exact q244 | exact of_decide_eq_true asz | (have e_ := (Kd.N_reads' HO_6.out).1; omega))
          obtain ⟨ua244_0, uc244_0, ua244_1, uc244_1, rfl, ul244_0, ge244_0, ul244_1, ge244_1⟩ := k87_openF hMe244
          have hv244_0 := hcc244 0 _ rfl
          rw [Nat.add_zero] at hv244_0
          replace hv244_0 := Option.some.inj (hv244_0.symm.trans hx244_0)
          injection hv244_0 with hva_ hvn_ hvc_
          rw [hva_] at ge244_0
          rw [hvc_] at ul244_0
          have HL244_0 := Aside0.mk (show Kd.V (Kd.int .i64) 3 _ w.heap.size _ _ ((rd_T87 x6_2 x8_1).f0) from Kd.V_mk ul244_0 ge244_0)
          clear hva_ hvn_ hvc_ ge244_0 ul244_0
          have hv244_1 := hcc244 1 _ rfl
          rw [add_field _ _ 1 (by omega)] at hv244_1
          replace hv244_1 := Option.some.inj (hv244_1.symm.trans hx244_1)
          injection hv244_1 with hva_ hvn_ hvc_
          rw [hva_] at ge244_1
          rw [hvc_] at ul244_1
          have HL244_1 := Aside0.mk (show Kd.V (Kd.int .i64) 3 _ w.heap.size _ _ ((rd_T87 x6_2 x8_1).f1) from Kd.V_mk ul244_1 ge244_1)
          clear hva_ hvn_ hvc_ ge244_1 ul244_1
          clear hcc244 hce244
          have HR244_0 := Aside0.mk hi244_0
          have HC244_0 := Aside0.mk hl244_0
          clear hi244_0 hl244_0
          have HR244_1 := Aside0.mk hi244_1
          have HC244_1 := Aside0.mk hl244_1
          clear hi244_1 hl244_1
          replace p244 := eq_true p244
          replace q244 := eq_true q244
          refine start_ (n := 16) (S := fun w' => w'.cell? ⟨gb237, 0, none⟩ = some (.int .i64 a0_0) ∧ w'.cell? ⟨gb237, 1, none⟩ = some (.slice (some ad243) l0_1.length c0_1) ∧ w'.cell? (ad243.add ((x9_2).toNat * 2)) = some (.slice A243_0 ((rd_T64 l0_1 x9_2).f0).length c243_0) ∧ w'.cell? ⟨(ad243.add ((x9_2).toNat * 2)).block, (ad243.add ((x9_2).toNat * 2)).off + 1, none⟩ = some (.slice A243_1 ((rd_T64 l0_1 x9_2).f1).length c243_1) ∧ w'.cell? (ad244.add ((x8_1).toNat * 2)) = some (.slice A244_0 ((rd_T87 x6_2 x8_1).f0).length c244_0) ∧ w'.cell? ⟨(ad244.add ((x8_1).toNat * 2)).block, (ad244.add ((x8_1).toNat * 2)).off + 1, none⟩ = some (.slice A244_1 ((rd_T87 x6_2 x8_1).f1).length c244_1)) (ds := []) #[false, false, false, false, false, false, false, false, false, false, false, false, false, false, false, false] (by kernel_rfl) rfl rfl ⟨(blk_cell BK237.out 0).trans rfl, (blk_cell BK237.out 1).trans rfl, ((HB.out.cell (World.block_lt_of_cell? w _ hw243_0)).trans hw243_0), ((HB.out.cell (World.block_lt_of_cell? w _ hw243_1)).trans hw243_1), hx244_0, hx244_1⟩ (fun hHeld => ?_); refine with_tabW dropperref06_found.tab9 dropperref06_found.bits9 (fun HT_ HW_ => ?_)
          generalize wr.drew = w18 at HO_6 BK237 BK242 HB HL244_0 HL244_1 HR243_0 HR243_1 HR244_0 HR244_1 hx243_0 hx243_1 hx244_0 hx244_1 hHeld ⊢
          refine pst (i := 0) (N := some 33) (bz 16 1) (any_of HT_.out (by kernel_rfl)) ?_
          refine pst (i := 2) (N := some 35) (bz 16 5) (any_of HT_.out (by kernel_rfl)) ?_
          refine pst (i := 5) (N := some 38) (bz 16 37) (any_of HT_.out (by kernel_rfl)) ?_
          refine pst (i := 6) (N := some 39) (bz 16 101) (any_of HT_.out (by kernel_rfl)) ?_
          refine pst (i := 7) (N := some 40) (bz 16 229) (any_of HT_.out (by kernel_rfl)) ?_
          refine pst (i := 8) (N := some 41) (bz 16 485) (any_of HT_.out (by kernel_rfl)) ?_
          refine tst6 (i := 1) (N := some 34) (bz 16 487) (take_ofW HT_.out HW_.out (by kernel_rfl)) hHeld ?_
          refine pst (i := 3) (N := some 36) (bz 16 495) (any_of HT_.out (by kernel_rfl)) ?_
          refine tst6 (i := 4) (N := some 37) (bz 16 511) (take_ofW HT_.out HW_.out (by kernel_rfl)) hHeld ?_
          refine tst6 (i := 9) (N := some 42) (bz 16 1023) (take_ofW HT_.out HW_.out (by kernel_rfl)) hHeld ?_
          refine one_ (i := 10) (N := some 43) #[true, true, true, true, true, true, true, true, true, true, true, false, false, false, false, false] rfl rfl (one_of HT_.out (by kernel_rfl)) (by decide) (fun K hK => ?_)
          refine goes_ Try.func77 (by kernel_rfl) rfl #[.agg #[.slice A243_0 ((rd_T64 l0_1 x9_2).f0).length c243_0, .slice A243_1 ((rd_T64 l0_1 x9_2).f1).length c243_1], .slice A244_0 ((rd_T87 x6_2 x8_1).f0).length c244_0] (by rfl) rfl rfl mapz ?_
          with_reducible refine (dropperref06_after.calls k2 _ _ ((rd_T64 l0_1 x9_2).f0) _ _ ((rd_T64 l0_1 x9_2).f1) _ _ ((rd_T87 x6_2 x8_1).f0) t245 t248 _ ?side1 ?side2 ?side3 ?side4 ?side5 ?side6 A14.out).mono ?_
          (case side1 => exact cbz HR243_0)
          (case side2 => exact HC243_0.out)
          (case side3 => exact cbz HR243_1)
          (case side4 => exact HC243_1.out)
          (case side5 => repeat (first | exact (by repeat (first | (with_reducible exact HR244_0.out) | (with_reducible refine Kd.C_alloc ?_ _) | (with_reducible refine Kd.C_drewN ?_ _) | (with_reducible refine Kd.C_drew ?_) | exact HR244_0.out)) | (with_reducible refine Kd.C_alloc ?_ _) | (with_reducible refine Kd.C_drewN ?_ _) | (with_reducible refine Kd.C_drew ?_)))
          (case side6 => exact HC244_0.out)
          rintro e w20 ⟨v246, rfl, ho0, hb⟩
          have HS4_ := (hb.cell (World.block_lt_of_cell? _ _ (hHeld.2.2.2.2.1))).trans (hHeld.2.2.2.2.1)
          have HS5_ := (hb.cell (World.block_lt_of_cell? _ _ (hHeld.2.2.2.2.2))).trans (hHeld.2.2.2.2.2)
          refine ⟨_, rfl, ?_⟩
          have n0_ := Aside0.mk (Kd.N_elder' (by (with_reducible repeat (first | apply Kd.N_alloc | apply Kd.N_drewN | apply Kd.N_drew)); exact HO_6.out) (Kd.R_base ho0) hb)
          have n1_ := Aside0.mk (Kd.V_elder' (by (with_reducible repeat (first | apply Kd.V_alloc | apply Kd.V_drewN | apply Kd.V_drew)); exact HL244_0.out) (Kd.R_base ho0) hb)
          have n2_ := Aside0.mk (Kd.V_elder' (by (with_reducible repeat (first | apply Kd.V_alloc | apply Kd.V_drewN | apply Kd.V_drew)); exact HL244_1.out) (Kd.R_base ho0) hb)
          have n3_ := Aside0.mk (Kd.R_lower (Kd.R_newM (M := fun k_ => (w.heap.size ≤ k_)) ho0 (below_size bel) (fun k_ h_ => h_)) (below_size bel))
          have n4_ := Aside0.mk (blk_below (g := gb237) blkz hb)
          have n5_ := Aside0.mk (TSet.below (by (with_reducible repeat (first | apply TSet.alloc | apply TSet.drewN | apply TSet.drew)); exact BK242.out) hb)
          have n6_ := Aside0.mk (Kd.C_below (by repeat (first | (with_reducible exact HR244_0.out) | (with_reducible refine Kd.C_alloc ?_ _) | (with_reducible refine Kd.C_drewN ?_ _) | (with_reducible refine Kd.C_drew ?_) | exact HR244_0.out)) hb)
          have n7_ := Aside0.mk (Kd.C_below (by repeat (first | (with_reducible exact HR244_1.out) | (with_reducible refine Kd.C_alloc ?_ _) | (with_reducible refine Kd.C_drewN ?_ _) | (with_reducible refine Kd.C_drew ?_) | exact HR244_1.out)) hb)
          have n8_ := Aside0.mk (below_step bel hb)
          clear HO_6
          clear HL244_0
          clear HL244_1
          clear BK237
          clear BK242
          clear HR244_0
          clear HR244_1
          clear HB
          have HO_6 := n0_
          have HL244_0 := n1_
          have HL244_1 := n2_
          have HO247 := n3_
          have BK237 := n4_
          have BK242 := n5_
          have HR244_0 := n6_
          have HR244_1 := n7_
          have HB := n8_
          clear n0_ n1_ n2_ n3_ n4_ n5_ n6_ n7_ n8_
          (try clear hb)
          (try clear hb2)
          (try clear hk)
          (try clear hi)
          (try clear ho0)
          refine hK.out _ _ ⟨(blk_cell BK237.out 0).trans rfl, (blk_cell BK237.out 1).trans rfl, ((HB.out.cell (World.block_lt_of_cell? w _ hw243_0)).trans hw243_0), ((HB.out.cell (World.block_lt_of_cell? w _ hw243_1)).trans hw243_1), HS4_, HS5_⟩ (fun hHeld => ?_)
          clear hK K
          refine norm_ (a' := ?_) ?_ ?_
          rotate_left
          ·
           show Act.put _ (some 43) _ = _
           simp only [Act.put, List.setIfInBounds_toArray, List.set_cons_zero, List.set_cons_succ, i64_w, i32_w]
           rfl
          refine pst (i := 11) (N := some 32) (bz 16 4095) (any_of HT_.out (by kernel_rfl)) ?_
          refine pst (i := 12) (N := some 44) (bz 16 8191) (any_of HT_.out (by kernel_rfl)) ?_
          refine pst (i := 13) (N := some 45) (bz 16 16383) (any_of HT_.out (by kernel_rfl)) ?_
          refine pst (i := 14) (N := some 10) (bz 16 32767) (any_of HT_.out (by kernel_rfl)) ?_
          refine pst (i := 15) (N := some 11) (bz 16 65535) (any_of HT_.out (by kernel_rfl)) ?_
          refine done_ (done_of HT_.out (by kernel_rfl)) ?_
          go_upto_region 10 with (fail)
          go_cut [53] (fun v53 wc => ∃ (kq : Nat) (x53_14 : Bool), v53 = .bool x53_14 ∧ Aside0 (dropperref06_found.j2 kq x6_2 q_2 x8_1 x9_2 t245 x53_14 a0_0 l0_1 = some (r1, r2)) ∧ Aside0 (kq ≤ k2) ∧ Aside0 (Kd.N k87 87 wc w.heap.size (fun k_ => (P1_ k_ ∨ w.heap.size ≤ k_) ∧ some k_ ≠ (v246 : Value).ownBlock ∧ k_ ≠ gb237 ∧ k_ ≠ gb242) (.slice (some ad244) x6_2.length co19) x6_2) ∧ Aside0 (Kd.R (Kd.int .i64) 3 wc w.heap.size (fun k_ => (w.heap.size ≤ k_)) v246 t245) ∧ Aside0 (wc.heap[gb237]? = some (.cells #[.int .i64 a0_0, (.slice (some ad243) l0_1.length c0_1)] 24 (0, 0))) ∧ Aside0 (TSet Try.prog 9 4 wc gb242 q_2) ∧ Aside0 (Kd.C (Kd.int .i64) wc A244_0 ((rd_T87 x6_2 x8_1).f0).length ((rd_T87 x6_2 x8_1).f0)) ∧ Aside0 (Kd.C (Kd.int .i64) wc A244_1 ((rd_T87 x6_2 x8_1).f1).length ((rd_T87 x6_2 x8_1).f1)) ∧ Aside0 (Below w.heap.size w wc))
          case first =>
           have H := HC15.out
           clear HC15
           by_cases c21 : t248 = true
           ·
            subst c21
            rw [if_pos rfl] at H
            replace H := Option.bind_eq_some_iff.mp H
            obtain ⟨t249, A220, H⟩ := H
            try dsimp only at H
            have A22 := Aside0.mk A220
            clear A220
            by_cases cq22 : ¬ t249.size ≤ 10000
            ·
             rw [if_neg cq22] at H; exact absurd H (by simp)
            replace cq22 := Decidable.not_not.1 cq22
            rw [if_pos cq22] at H
            have hlk : ∀ m, (Instr.lookup 113 (.map (some gb242)) (.string t249) false).run Try.prog (w20.drewN m) = .ok (.bool (inT t249 q_2)) (w20.drewN m) := fun m => TSet.look (TSet.drewN BK242.out m) Try.underlying9 Try.underlying113 Try.underlying4 (by kernel_rfl) (Nat.le_trans cq22 (by decide))
            clear cq22
            have H' := Aside0.mk H
            clear H
            obtain ⟨Ao23, co23, eo23⟩ := Kd.R_slice HO247.out
            subst eo23
            go_wp2_with (first | (go_at_call 98; (with_reducible refine (dropperref06_text.calls k2 _ _ t245 t249 _ ?side1 ?side2 A22.out).mono ?_); (case side1 => repeat (first | exact (Kd.R_reads' HO247.out).2.2 | (with_reducible refine Kd.C_alloc ?_ _) | (with_reducible refine Kd.C_drewN ?_ _) | (with_reducible refine Kd.C_drew ?_))); (case side2 => exact (Kd.R_reads' HO247.out).2.1); rintro e w' ⟨rfl, ⟨nd, rfl⟩⟩))
            go_meet
            case rel => exact ⟨_, (inT t249 q_2), rsz, H', ⟨by have := HK1.out; have := HK2.out; first | omega | exact Nat.le_refl _⟩, ⟨by (with_reducible repeat (first | apply Kd.N_alloc | apply Kd.N_drewN | apply Kd.N_drew)); exact Kd.N_mono HO_6.out (fun _ hk => ⟨hk.1.1, ⟨hk.2, ⟨hk.1.2.1, hk.1.2.2⟩⟩⟩)⟩, ⟨by (with_reducible repeat (first | apply Kd.R_alloc | apply Kd.R_drewN | apply Kd.R_drew)); exact Kd.R_mono HO247.out (fun _ hk => hk.1)⟩, ⟨blkz⟩, ⟨by (with_reducible repeat (first | apply TSet.alloc | apply TSet.drewN | apply TSet.drew)); exact BK242.out⟩, ⟨by repeat (first | (with_reducible exact HR244_0.out) | (with_reducible refine Kd.C_alloc ?_ _) | (with_reducible refine Kd.C_drewN ?_ _) | (with_reducible refine Kd.C_drew ?_) | exact HR244_0.out)⟩, ⟨by repeat (first | (with_reducible exact HR244_1.out) | (with_reducible refine Kd.C_alloc ?_ _) | (with_reducible refine Kd.C_drewN ?_ _) | (with_reducible refine Kd.C_drew ?_) | exact HR244_1.out)⟩, ⟨bel⟩⟩
           ·
            replace c21 := Bool.eq_false_iff.mpr c21
            subst c21
            rw [if_neg (show ¬ (false = true) by decide)] at H
            have H' := Aside0.mk H
            clear H
            go_wp2
            go_meet
            case rel => exact ⟨_, (true), rsz, H', ⟨by have := HK1.out; have := HK2.out; first | omega | exact Nat.le_refl _⟩, ⟨by (with_reducible repeat (first | apply Kd.N_alloc | apply Kd.N_drewN | apply Kd.N_drew)); exact Kd.N_mono HO_6.out (fun _ hk => ⟨hk.1.1, ⟨hk.2, ⟨hk.1.2.1, hk.1.2.2⟩⟩⟩)⟩, ⟨by (with_reducible repeat (first | apply Kd.R_alloc | apply Kd.R_drewN | apply Kd.R_drew)); exact Kd.R_mono HO247.out (fun _ hk => hk.1)⟩, ⟨blkz⟩, ⟨by (with_reducible repeat (first | apply TSet.alloc | apply TSet.drewN | apply TSet.drew)); exact BK242.out⟩, ⟨by repeat (first | (with_reducible exact HR244_0.out) | (with_reducible refine Kd.C_alloc ?_ _) | (with_reducible refine Kd.C_drewN ?_ _) | (with_reducible refine Kd.C_drew ?_) | exact HR244_0.out)⟩, ⟨by repeat (first | (with_reducible exact HR244_1.out) | (with_reducible refine Kd.C_alloc ?_ _) | (with_reducible refine Kd.C_drewN ?_ _) | (with_reducible refine Kd.C_drew ?_) | exact HR244_1.out)⟩, ⟨bel⟩⟩
          case rest =>
           clear HC15
           (try clear c1); (try clear c2); (try clear p2); (try clear q2); (try clear hx2); (try clear c7); (try clear c8); (try clear c8b0); (try clear c9); (try clear c10); (try clear c10b0); (try clear c11); (try clear c11b0); (try clear c12); (try clear c12b0); (try clear c13); (try clear c13b0); (try clear c16); (try clear c21); (try clear hcz17_0); (try clear hcz17_1); (try clear hfz17_0); (try clear hfz17_1); (try clear hx243_0); (try clear hx243_1); (try clear hx244_0); (try clear hx244_1); (try clear p2); (try clear p243); (try clear p244); (try clear q243); (try clear q244)
           obtain ⟨kq, x53_14, rfl, HA, HJ14, HO_6, HO_10, BK237, BK242, HR244_0, HR244_1, HB⟩ := hcut
           cases kq with
           | zero => exact absurd HA.out (by simp [dropperref06_found.j2])
           | succ kj14 =>
            have H := HA.out
            clear HA
            simp only [dropperref06_found.j2] at H
            by_cases c24 : x53_14 = true
            ·
             subst c24
             rw [if_pos rfl] at H
             have H' := Aside0.mk H
             clear H
             go_wp2
             go_roundg kj14
             case measure => have := HK1.out; have := HK2.out; have := HJ14.out; omega
             case rel => exact ⟨(x6_2), q_2, (wrap64 (x9_2 + 1)), rsz, H', ⟨by have := HK1.out; have := HK2.out; have := HJ14.out; omega⟩, ⟨by (with_reducible repeat (first | apply Kd.N_alloc | apply Kd.N_drewN | apply Kd.N_drew)); exact Kd.N_mono HO_6.out (fun _ hk => ⟨hk.1, ⟨hk.2.2.1, hk.2.2.2⟩⟩)⟩, ⟨blkz⟩, ⟨by (with_reducible repeat (first | apply TSet.alloc | apply TSet.drewN | apply TSet.drew)); exact BK242.out⟩, ⟨bel⟩⟩
            ·
             replace c24 := Bool.eq_false_iff.mpr c24
             subst c24
             rw [if_neg (show ¬ (false = true) by decide)] at H
             by_cases c25 : (x6_2.length : Int) = 300
             ·
              rw [if_pos c25] at H
              have c25b0 : ((x6_2.length : Int) == 300) = true := beq_iff_eq.mpr c25
              have c25b1 : ((x6_2.length : Int) != 300) = false := bne_eq_false_iff_eq.mpr c25
              clear c25
              simp only [Option.some.injEq, Prod.mk.injEq] at H
              obtain ⟨rfl, rfl⟩ := H
              go_wp2
              go_ret2
              exact ⟨_, ezz, by first | exact Kd.S_nil _ _ _ _ _ | exact Kd.N_nil _ _ _ _ _ | exact Kd.V_nil _ _ _ _ _ | exact Kd.Q_nil _ _ _ _ _ | exact Kd.R_nil _ _ _ _ _, bel⟩
             ·
              rw [if_neg c25] at H
              have c25b0 : ((x6_2.length : Int) == 300) = false := beq_eq_false_iff_ne.mpr c25
              have c25b1 : ((x6_2.length : Int) != 300) = true := bne_iff_ne.mpr c25
              replace H := Option.bind_eq_some_iff.mp H
              obtain ⟨t250, A260, H⟩ := H
              try dsimp only at H
              have A26 := Aside0.mk A260
              clear A260
              by_cases cq26 : ¬ (t250.size ≤ 10000 ∧ q_2.length < 10000)
              ·
               rw [if_neg cq26] at H; exact absurd H (by simp)
              replace cq26 := Decidable.not_not.1 cq26
              rw [if_pos cq26] at H
              have CQ26 := Aside0.mk cq26
              clear cq26
              obtain ⟨y251, hy251⟩ : ∃ y_ : List Int, y_ = (([] : List Int)) := ⟨_, rfl⟩
              replace H : (if 0 ≤ x8_1 then (if x8_1 < (x6_2.length : Int) then (if y251.length + ((rd_T87 x6_2 x8_1).f1).length < 17592186044416 then ((some (y251 ++ ((rd_T87 x6_2 x8_1).f1) : List Int)).bind fun y255 => (if y255.length < 17592186044416 then (if x6_2.length < 2932031007402 then (dropperref06_found.l1 kj14 (x6_2 ++ [(⟨t245, (y255 ++ [x9_2])⟩ : S87)]) (t250 :: q_2) x8_1 (wrap64 (x9_2 + 1)) a0_0 l0_1) else (none)) else (none))) else (none)) else (none)) else (none)) = some (r1, r2) := by first | (rw [hy251]; with_reducible exact H) | (have H2_ := (Option.bind_some _ _).symm.trans H; rw [hy251]; with_reducible exact H2_) | (have H2_ := (Option.bind_some _ _).symm.trans H; with_reducible exact H2_) | with_reducible exact H | (rw [hy251]; exact H) | exact H
              have Ny251 := Aside0.mk hy251
              clear hy251
              by_cases c27 : 0 ≤ x8_1
              ·
               rw [if_pos c27] at H
               have c27b0 : decide (0 ≤ x8_1) = true := decide_eq_true c27
               clear c27
               by_cases c28 : x8_1 < (x6_2.length : Int)
               ·
                rw [if_pos c28] at H
                have c28b0 : decide (x8_1 < (x6_2.length : Int)) = true := decide_eq_true c28
                clear c28
                by_cases c29 : y251.length + ((rd_T87 x6_2 x8_1).f1).length < 17592186044416
                ·
                 rw [if_pos c29] at H
                 have LMc29 := Aside0.mk c29
                 clear c29
                 obtain ⟨y255, hy255⟩ : ∃ y_ : List Int, y_ = (y251 ++ ((rd_T87 x6_2 x8_1).f1)) := ⟨_, rfl⟩
                 replace H : (if y255.length < 17592186044416 then (if x6_2.length < 2932031007402 then (dropperref06_found.l1 kj14 (x6_2 ++ [(⟨t245, (y255 ++ [x9_2])⟩ : S87)]) (t250 :: q_2) x8_1 (wrap64 (x9_2 + 1)) a0_0 l0_1) else (none)) else (none)) = some (r1, r2) := by first | (rw [hy255]; with_reducible exact H) | (have H2_ := (Option.bind_some _ _).symm.trans H; rw [hy255]; with_reducible exact H2_) | (have H2_ := (Option.bind_some _ _).symm.trans H; with_reducible exact H2_) | with_reducible exact H | (rw [hy255]; exact H) | exact H
                 have Ny255 := Aside0.mk hy255
                 clear hy255
                 by_cases c30 : y255.length < 17592186044416
                 ·
                  rw [if_pos c30] at H
                  have LMc30 := Aside0.mk c30
                  clear c30
                  obtain ⟨y258, hy258⟩ : ∃ y_ : List Int, y_ = (y255 ++ [x9_2]) := ⟨_, rfl⟩
                  replace H : (if x6_2.length < 2932031007402 then (dropperref06_found.l1 kj14 (x6_2 ++ [(⟨t245, y258⟩ : S87)]) (t250 :: q_2) x8_1 (wrap64 (x9_2 + 1)) a0_0 l0_1) else (none)) = some (r1, r2) := by first | (rw [hy258]; with_reducible exact H) | (have H2_ := (Option.bind_some _ _).symm.trans H; rw [hy258]; with_reducible exact H2_) | (have H2_ := (Option.bind_some _ _).symm.trans H; with_reducible exact H2_) | with_reducible exact H | (rw [hy258]; exact H) | exact H
                  have Ny258 := Aside0.mk hy258
                  clear hy258
                  by_cases c31 : x6_2.length < 2932031007402
                  ·
                   rw [if_pos c31] at H
                   have LMc31 := Aside0.mk c31
                   clear c31
                   obtain ⟨y261, hy261⟩ : ∃ y_ : List (S87), y_ = (x6_2 ++ [(⟨t245, y258⟩ : S87)]) := ⟨_, rfl⟩
                   replace H : (dropperref06_found.l1 kj14 y261 (t250 :: q_2) x8_1 (wrap64 (x9_2 + 1)) a0_0 l0_1) = some (r1, r2) := by first | (rw [hy261]; with_reducible exact H) | (have H2_ := (Option.bind_some _ _).symm.trans H; rw [hy261]; with_reducible exact H2_) | (have H2_ := (Option.bind_some _ _).symm.trans H; with_reducible exact H2_) | with_reducible exact H | (rw [hy261]; exact H) | exact H
                   have Ny261 := Aside0.mk hy261
                   clear hy261
                   have H' := Aside0.mk H
                   clear H
                   obtain ⟨Ao32, co32, eo32⟩ := Kd.R_slice HO_10.out
                   subst eo32
                   go_wp2_with (first | ((with_reducible refine gate_callee (f := 98) rfl ?_); refine goesL_ (some 59) rfl rfl Try.func98 (by kernel_rfl) rfl #[.slice Ao32 t245.length co32] rfl mapz ?_; (with_reducible refine (dropperref06_text.calls kj14 _ _ t245 t250 _ ?side1 ?side2 A26.out).mono ?_); (case side1 => repeat (first | exact (Kd.R_reads' HO_10.out).2.2 | (with_reducible refine Kd.C_alloc ?_ _) | (with_reducible refine Kd.C_drewN ?_ _) | (with_reducible refine Kd.C_drew ?_))); (case side2 => exact (Kd.R_reads' HO_10.out).2.1); rintro e w' ⟨rfl, ⟨nd, rfl⟩⟩; refine ⟨_, rfl, ?_⟩) | (at_mapUpdate; refine tset_store (t := 113) rfl (.tmp 57) (.tmp 59) (.const (.bool true)) (.inl rfl) rfl t250 rfl rfl (by (with_reducible repeat (first | apply TSet.alloc | apply TSet.drewN | apply TSet.drew)); exact BK242.out) Try.underlying9 Try.underlying113 Try.underlying4 (Nat.lt_trans CQ26.out.2 (by decide)) (Nat.le_trans CQ26.out.1 (by decide)) ?_; intro w34 hm hg; have n0_ := Aside0.mk (Kd.N_grown (w1 := w34) (by (with_reducible repeat (first | apply Kd.N_alloc | apply Kd.N_drewN | apply Kd.N_drew)); exact HO_6.out) hg (fun k_ hk e_ => by injection e_ with e_; exact hk.2.2.2 e_)); have n1_ := Aside0.mk (Kd.R_mono (Kd.R_grown (w1 := w34) (TSet.away (by (with_reducible repeat (first | apply TSet.alloc | apply TSet.drewN | apply TSet.drew)); exact BK242.out) (by (with_reducible repeat (first | apply Kd.R_alloc | apply Kd.R_drewN | apply Kd.R_drew)); exact HO_10.out)) hg (fun k_ hk e_ => by injection e_ with e_; exact hk.2 e_)) (fun k_ hk => hk.1)); have n2_ := Aside0.mk (blk_grown (g := gb237) (o := .cells #[.int .i64 a0_0, .slice (some ad243) l0_1.length c0_1] 24 (0, 0)) blkz hg (TSet.ne_box BK242.out BK237.out)); have n3_ := Aside0.mk (Below.grown (show Below w.heap.size w _ from bel) hg (below_size bel) (fun j_ hj_ => by injection hj_ with hj_; rw [← hj_]; exact GW242.out)); clear HO_6 HO_10 BK237 HB BK242 HR244_0 HR244_1; have HO_6 := n0_; have HO_10 := n1_; have BK237 := n2_; have HB := n3_; have BK242 := Aside0.mk hm; clear n0_ n1_ n2_ n3_ hm hg) | ((with_reducible refine gate_dst (N := 62) rfl ?_); refine Kd.R_lit (Kd.int .i64) _ 3 ?hg (N := 62) ?hd (xs := ([] : List Int)) (inner := []) (ok := fun _ => True) (okp := fun _ => True) ?hr ?hp (fun _ hk => hk) trivial (Below.refl _ _) (Nat.le_refl _) (by simp) ?_; (case hd => rfl); (case hg => rfl); (case hr => first | (go_simp; done) | (go_simp; rfl)); (case hp => exact (Reps.none _ _)); intro v252 w35 ho36 hb hg_ hnew_; clear hg_ hnew_; (first | rw [← Ny251.out] at ho36 | (simp only [Int.reduceToNat] at ho36; rw [← Ny251.out] at ho36)); have HO253 := Aside0.mk (Kd.R_lower (Kd.R_new' (Kd.R_newM (M := fun k_ => (w.heap.size ≤ k_)) ho36 (below_size bel) (fun k_ h_ => h_)) (Kd.R_lt (ownx HO_10))) (below_size bel)); replace HO_6 := Aside0.mk (Kd.N_elder' (by (with_reducible repeat (first | apply Kd.N_alloc | apply Kd.N_drewN | apply Kd.N_drew)); exact HO_6.out) (Kd.R_base ho36) hb); replace HO_10 := Aside0.mk (Kd.R_elder' (ownx HO_10) (Kd.R_base ho36) hb); replace BK237 := Aside0.mk (blk_below (g := gb237) blkz hb); replace BK242 := Aside0.mk (TSet.below (by (with_reducible repeat (first | apply TSet.alloc | apply TSet.drewN | apply TSet.drew)); exact BK242.out) hb); replace HB := Aside0.mk (below_step bel hb); clear hb ho36; have p254 : 0 ≤ (x8_1 : Int) := of_decide_eq_true asz; have q254 : x8_1 < (x6_2.length : Int) := of_decide_eq_true asz; obtain ⟨ad254, A254_0, c254_0, A254_1, c254_1, e254, hx254_0, hx254_1, hl254_0, hi254_0, hl254_1, hi254_1⟩ := at_T87 (Kd.N_reads' HO_6.out).2.2 x8_1 p254 q254; obtain rfl : ad244 = ad254 := (by injection e254); obtain ⟨ce254, hce254, hMe254, hcc254⟩ := Kd.N_get HO_6.out z87 x8_1 p254 (by first | exact q254 | exact of_decide_eq_true asz | (have e_ := (Kd.N_reads' HO_6.out).1; omega)); obtain ⟨ua254_0, uc254_0, ua254_1, uc254_1, rfl, ul254_0, ge254_0, ul254_1, ge254_1⟩ := k87_openF hMe254; have hv254_0 := hcc254 0 _ rfl; rw [Nat.add_zero] at hv254_0; replace hv254_0 := Option.some.inj (hv254_0.symm.trans hx254_0); injection hv254_0 with hva_ hvn_ hvc_; rw [hva_] at ge254_0; rw [hvc_] at ul254_0; have HL254_0 := Aside0.mk (show Kd.V (Kd.int .i64) 3 _ w.heap.size _ _ ((rd_T87 x6_2 x8_1).f0) from Kd.V_mk ul254_0 ge254_0); clear hva_ hvn_ hvc_ ge254_0 ul254_0; have hv254_1 := hcc254 1 _ rfl; rw [add_field _ _ 1 (by omega)] at hv254_1; replace hv254_1 := Option.some.inj (hv254_1.symm.trans hx254_1); injection hv254_1 with hva_ hvn_ hvc_; rw [hva_] at ge254_1; rw [hvc_] at ul254_1; have HL254_1 := Aside0.mk (show Kd.V (Kd.int .i64) 3 _ w.heap.size _ _ ((rd_T87 x6_2 x8_1).f1) from Kd.V_mk ul254_1 ge254_1); clear hva_ hvn_ hvc_ ge254_1 ul254_1; clear hcc254 hce254; have HR254_0 := Aside0.mk hi254_0; have HC254_0 := Aside0.mk hl254_0; clear hi254_0 hl254_0; have HR254_1 := Aside0.mk hi254_1; have HC254_1 := Aside0.mk hl254_1; clear hi254_1 hl254_1; replace p254 := eq_true p254; replace q254 := eq_true q254) | ((with_reducible refine gate_builtin (b := .append) (xs := #[.tmp 62, .tmp 67]) rfl ?_); at_builtin; refine Kd.R_append_rows (Kd.int .i64) (w0 := w) w.heap.size rfl (.tmp 62) (.tmp 67) 25 3 (.int .i64 0) 8 rfl Try.underlying25 info3 rfl (by decide) (by omega) v252 y251 ((rd_T87 x6_2 x8_1).f1) _ _ _ (fun k_ => (w.heap.size ≤ k_) ∧ some k_ ≠ (.slice Ao32 t245.length co32 : Value).ownBlock) (fun _ => False) rfl rfl ?aO ?aR (fun _ _ h => h) (fun _ h => h.elim) ?aF ?aB ?aS ?aL ?_; (case aR => repeat (first | exact (by repeat (first | (with_reducible exact HR254_1.out) | (with_reducible refine Kd.C_alloc ?_ _) | (with_reducible refine Kd.C_drewN ?_ _) | (with_reducible refine Kd.C_drew ?_) | exact HR254_1.out)) | (with_reducible refine Kd.C_alloc ?_ _) | (with_reducible refine Kd.C_drewN ?_ _) | (with_reducible refine Kd.C_drew ?_))); (case aB => exact bel); (case aF => exact (fun k_ hk => ⟨(Nat.le_trans (below_size bel) hk), Kd.fresh' (Kd.R_lt (ownx HO_10)) k_ hk⟩)); (case aO => exact (by (with_reducible repeat (first | apply Kd.R_alloc | apply Kd.R_drewN | apply Kd.R_drew)); exact Kd.R_mono HO253.out (fun _ hk => ⟨hk.1.1, hk.2⟩))); (case aS => exact (below_size bel)); (case aL => have := LMc29.out; omega); intro v256 w37 ho hb hg hat; rw [← Ny255.out] at ho; have n0_ := Aside0.mk (Kd.N_afterv (ok := (fun k_ => (P1_ k_ ∨ w.heap.size ≤ k_) ∧ some k_ ≠ (.slice Ao32 t245.length co32 : Value).ownBlock ∧ k_ ≠ gb237 ∧ k_ ≠ gb242)) (by (with_reducible repeat (first | apply Kd.N_alloc | apply Kd.N_drewN | apply Kd.N_drew)); exact HO_6.out) hg hat); have n1_ := Aside0.mk (Kd.R_after (ok := (fun k_ => (w.heap.size ≤ k_))) (ownx HO_10) hg hat); have n2_ := Aside0.mk (blk_grown (g := gb237) (o := .cells #[.int .i64 a0_0, .slice (some ad243) l0_1.length c0_1] 24 (0, 0)) blkz hg (Kd.R_ne HO253.out BK237.out (by decide))); have n3_ := Aside0.mk (TSet.grown (by (with_reducible repeat (first | apply TSet.alloc | apply TSet.drewN | apply TSet.drew)); exact BK242.out) hg (TSet.ne_R BK242.out HO253.out)); have n4_ := Aside0.mk (Kd.V_afterv (ok := (fun k_ => (P1_ k_ ∨ w.heap.size ≤ k_) ∧ some k_ ≠ (.slice (some ad244) x6_2.length co19 : Value).ownBlock ∧ some k_ ≠ (.slice Ao32 t245.length co32 : Value).ownBlock ∧ k_ ≠ gb237 ∧ k_ ≠ gb242)) (by (with_reducible repeat (first | apply Kd.V_alloc | apply Kd.V_drewN | apply Kd.V_drew)); exact Kd.V_mono HL254_0.out (fun _ hk => ⟨⟨hk.1.1.1, ⟨hk.2, ⟨hk.1.1.2.1, ⟨hk.1.1.2.2.1, hk.1.1.2.2.2⟩⟩⟩⟩, hk.1.2⟩)) hg hat); have n5_ := Aside0.mk (Kd.V_afterv (ok := (fun k_ => (P1_ k_ ∨ w.heap.size ≤ k_) ∧ some k_ ≠ (.slice (some ad244) x6_2.length co19 : Value).ownBlock ∧ some k_ ≠ (.slice Ao32 t245.length co32 : Value).ownBlock ∧ k_ ≠ gb237 ∧ k_ ≠ gb242)) (by (with_reducible repeat (first | apply Kd.V_alloc | apply Kd.V_drewN | apply Kd.V_drew)); exact Kd.V_mono HL254_1.out (fun _ hk => ⟨⟨hk.1.1.1, ⟨hk.2, ⟨hk.1.1.2.1, ⟨hk.1.1.2.2.1, hk.1.1.2.2.2⟩⟩⟩⟩, hk.1.2⟩)) hg hat); have n6_ := Aside0.mk (hb); have n7_ := Aside0.mk (ho); clear HO_6; clear HO_10; clear BK237; clear BK242; clear HL254_0; clear HL254_1; clear HB; clear HO253; have HO_6 := n0_; have HO_10 := n1_; have BK237 := n2_; have BK242 := n3_; have HL254_0 := n4_; have HL254_1 := n5_; have HB := n6_; have HO257 := n7_; clear n0_ n1_ n2_ n3_ n4_ n5_ n6_ n7_; clear ho hb hg hat) | ((with_reducible refine gate_builtin (b := .append) (xs := #[.tmp 68, .tmp 70]) rfl ?_); at_builtin; refine Kd.R_append (Kd.int .i64) (w0 := w) w.heap.size rfl (.tmp 68) (.tmp 70) 25 3 (.int .i64 0) 8 rfl Try.underlying25 info3 rfl (by decide) (by omega) v256 y255 x9_2 [.int .i64 x9_2] (fun k_ => (w.heap.size ≤ k_) ∧ some k_ ≠ (.slice Ao32 t245.length co32 : Value).ownBlock) (fun _ => False) rfl rfl ?aP (fun _ hk => hk.elim) ?aF ?aO ?aB ?aS ?aL ?_; (case aP => exact rfl); (case aB => exact bel); (case aF => exact (fun k_ hk => ⟨(Nat.le_trans (below_size bel) hk), Kd.fresh' (Kd.R_lt (ownx HO_10)) k_ hk⟩)); (case aO => exact (ownx HO257)); (case aS => exact (below_size bel)); (case aL => have := LMc30.out; omega); intro v259 w38 ho hb hg hat; rw [← Ny258.out] at ho; have n0_ := Aside0.mk (Kd.N_afterv (ok := (fun k_ => (P1_ k_ ∨ w.heap.size ≤ k_) ∧ some k_ ≠ (.slice Ao32 t245.length co32 : Value).ownBlock ∧ k_ ≠ gb237 ∧ k_ ≠ gb242)) (by (with_reducible repeat (first | apply Kd.N_alloc | apply Kd.N_drewN | apply Kd.N_drew)); exact HO_6.out) hg hat); have n1_ := Aside0.mk (Kd.R_after (ok := (fun k_ => (w.heap.size ≤ k_))) (ownx HO_10) hg hat); have n2_ := Aside0.mk (blk_grown (g := gb237) (o := .cells #[.int .i64 a0_0, .slice (some ad243) l0_1.length c0_1] 24 (0, 0)) blkz hg (Kd.R_ne HO257.out BK237.out (by decide))); have n3_ := Aside0.mk (TSet.grown (by (with_reducible repeat (first | apply TSet.alloc | apply TSet.drewN | apply TSet.drew)); exact BK242.out) hg (TSet.ne_R BK242.out HO257.out)); have n4_ := Aside0.mk (Kd.V_afterv (ok := (fun k_ => (P1_ k_ ∨ w.heap.size ≤ k_) ∧ some k_ ≠ (.slice (some ad244) x6_2.length co19 : Value).ownBlock ∧ some k_ ≠ (.slice Ao32 t245.length co32 : Value).ownBlock ∧ k_ ≠ gb237 ∧ k_ ≠ gb242)) (by (with_reducible repeat (first | apply Kd.V_alloc | apply Kd.V_drewN | apply Kd.V_drew)); exact HL254_0.out) hg hat); have n5_ := Aside0.mk (Kd.V_afterv (ok := (fun k_ => (P1_ k_ ∨ w.heap.size ≤ k_) ∧ some k_ ≠ (.slice (some ad244) x6_2.length co19 : Value).ownBlock ∧ some k_ ≠ (.slice Ao32 t245.length co32 : Value).ownBlock ∧ k_ ≠ gb237 ∧ k_ ≠ gb242)) (by (with_reducible repeat (first | apply Kd.V_alloc | apply Kd.V_drewN | apply Kd.V_drew)); exact HL254_1.out) hg hat); have n6_ := Aside0.mk (hb); have n7_ := Aside0.mk (ho); clear HO_6; clear HO_10; clear BK237; clear BK242; clear HL254_0; clear HL254_1; clear HB; clear HO257; have HO_6 := n0_; have HO_10 := n1_; have BK237 := n2_; have BK242 := n3_; have HL254_0 := n4_; have HL254_1 := n5_; have HB := n6_; have HO260 := n7_; clear n0_ n1_ n2_ n3_ n4_ n5_ n6_ n7_; clear ho hb hg hat; obtain ⟨Ao39, co39, eo39⟩ := Kd.R_slice HO260.out; subst eo39) | ((with_reducible refine gate_builtin (b := .append) (xs := #[.tmp 60, .tmp 73]) rfl ?_); at_builtin; refine Kd.N_append k87 (w0 := w) w.heap.size rfl (.tmp 60) (.tmp 73) 83 87 (.agg #[(.slice none 0 0), (.slice none 0 0)]) 48 rfl Try.underlying83 info87 rfl (by decide) (by omega) (.slice (some ad244) x6_2.length co19) x6_2 (⟨t245, y258⟩ : S87) [.slice Ao32 t245.length co32, .slice Ao39 y258.length co39] (fun k_ => (P1_ k_ ∨ w.heap.size ≤ k_) ∧ k_ ≠ gb237 ∧ k_ ≠ gb242) (fun k_ => ((fun k_ => (P1_ k_ ∨ w.heap.size ≤ k_) ∧ k_ ≠ gb237 ∧ k_ ≠ gb242)) k_ ∧ some k_ ≠ (.slice (some ad244) x6_2.length co19 : Value).ownBlock) rfl rfl ?aP (fun _ hk => hk) ?aF ?aO ?aB ?aS ?aL ?_; (case aP => exact (k87_mkF _ _ (⟨t245, y258⟩ : S87) (Kd.R_reads' (Kd.R_mono (ok' := (fun k_ => ((fun k_ => (P1_ k_ ∨ w.heap.size ≤ k_) ∧ k_ ≠ gb237 ∧ k_ ≠ gb242)) k_ ∧ some k_ ≠ (.slice (some ad244) x6_2.length co19 : Value).ownBlock)) (TSet.away BK242.out (Kd.R_types (Kd.R_apart' (HO_10.out) (Kd.N_typed HO_6.out) (by decide)) BK237.out (by decide))) (fun k_ hk => ⟨⟨(.inr (hk.1.1.1.1)), ⟨hk.1.2, hk.2⟩⟩, hk.1.1.2⟩))).2.1 (Kd.R_F (Kd.R_mono (ok' := (fun k_ => ((fun k_ => (P1_ k_ ∨ w.heap.size ≤ k_) ∧ k_ ≠ gb237 ∧ k_ ≠ gb242)) k_ ∧ some k_ ≠ (.slice (some ad244) x6_2.length co19 : Value).ownBlock)) (TSet.away BK242.out (Kd.R_types (Kd.R_apart' (HO_10.out) (Kd.N_typed HO_6.out) (by decide)) BK237.out (by decide))) (fun k_ hk => ⟨⟨(.inr (hk.1.1.1.1)), ⟨hk.1.2, hk.2⟩⟩, hk.1.1.2⟩))) (Kd.R_reads' (Kd.R_mono (ok' := (fun k_ => ((fun k_ => (P1_ k_ ∨ w.heap.size ≤ k_) ∧ k_ ≠ gb237 ∧ k_ ≠ gb242)) k_ ∧ some k_ ≠ (.slice (some ad244) x6_2.length co19 : Value).ownBlock)) (TSet.away BK242.out (Kd.R_types (Kd.R_apart' (HO260.out) (Kd.N_typed HO_6.out) (by decide)) BK237.out (by decide))) (fun k_ hk => ⟨⟨(.inr (hk.1.1.1.1)), ⟨hk.1.2, hk.2⟩⟩, hk.1.1.2⟩))).2.1 (Kd.R_F (Kd.R_mono (ok' := (fun k_ => ((fun k_ => (P1_ k_ ∨ w.heap.size ≤ k_) ∧ k_ ≠ gb237 ∧ k_ ≠ gb242)) k_ ∧ some k_ ≠ (.slice (some ad244) x6_2.length co19 : Value).ownBlock)) (TSet.away BK242.out (Kd.R_types (Kd.R_apart' (HO260.out) (Kd.N_typed HO_6.out) (by decide)) BK237.out (by decide))) (fun k_ hk => ⟨⟨(.inr (hk.1.1.1.1)), ⟨hk.1.2, hk.2⟩⟩, hk.1.1.2⟩))))); (case aB => exact bel); (case aF => exact (fun k_ hk => ⟨(.inr (Nat.le_trans (below_size bel) hk)), Kd.freshB (g := gb237) (o := .cells #[.int .i64 a0_0, .slice (some ad243) l0_1.length c0_1] 24 (0, 0)) blkz k_ hk, TSet.fresh (by (with_reducible repeat (first | apply TSet.alloc | apply TSet.drewN | apply TSet.drew)); exact BK242.out) k_ hk⟩)); (case aO => exact (by (with_reducible repeat (first | apply Kd.N_alloc | apply Kd.N_drewN | apply Kd.N_drew)); exact Kd.N_mono HO_6.out (fun _ hk => ⟨hk.1.1, ⟨hk.1.2.2.1, hk.1.2.2.2⟩⟩))); (case aS => exact (below_size bel)); (case aL => have := LMc31.out; omega); intro v262 w40 ho hb hg hat; rw [← Ny261.out] at ho; have n0_ := Aside0.mk (blk_grown (g := gb237) (o := .cells #[.int .i64 a0_0, .slice (some ad243) l0_1.length c0_1] 24 (0, 0)) blkz hg (Kd.N_ne HO_6.out BK237.out (by decide))); have n1_ := Aside0.mk (TSet.grown (by (with_reducible repeat (first | apply TSet.alloc | apply TSet.drewN | apply TSet.drew)); exact BK242.out) hg (TSet.ne_N BK242.out HO_6.out)); have n2_ := Aside0.mk (Kd.V_afterv (ok := (fun k_ => (P1_ k_ ∨ w.heap.size ≤ k_) ∧ some k_ ≠ (.slice Ao32 t245.length co32 : Value).ownBlock ∧ some k_ ≠ (.slice Ao39 y258.length co39 : Value).ownBlock ∧ k_ ≠ gb237 ∧ k_ ≠ gb242)) (by (with_reducible repeat (first | apply Kd.V_alloc | apply Kd.V_drewN | apply Kd.V_drew)); exact Kd.V_mono HL254_0.out (fun _ hk => ⟨⟨hk.1.1, ⟨hk.1.2.2.1, ⟨hk.2, ⟨hk.1.2.2.2.1, hk.1.2.2.2.2⟩⟩⟩⟩, hk.1.2.1⟩)) hg hat); have n3_ := Aside0.mk (Kd.V_afterv (ok := (fun k_ => (P1_ k_ ∨ w.heap.size ≤ k_) ∧ some k_ ≠ (.slice Ao32 t245.length co32 : Value).ownBlock ∧ some k_ ≠ (.slice Ao39 y258.length co39 : Value).ownBlock ∧ k_ ≠ gb237 ∧ k_ ≠ gb242)) (by (with_reducible repeat (first | apply Kd.V_alloc | apply Kd.V_drewN | apply Kd.V_drew)); exact Kd.V_mono HL254_1.out (fun _ hk => ⟨⟨hk.1.1, ⟨hk.1.2.2.1, ⟨hk.2, ⟨hk.1.2.2.2.1, hk.1.2.2.2.2⟩⟩⟩⟩, hk.1.2.1⟩)) hg hat); have n4_ := Aside0.mk (hb); have n5_ := Aside0.mk (ho); clear BK237; clear BK242; clear HL254_0; clear HL254_1; clear HB; clear HO_6; clear HO260; clear HO_10; have BK237 := n0_; have BK242 := n1_; have HL254_0 := n2_; have HL254_1 := n3_; have HB := n4_; have HO263 := n5_; clear n0_ n1_ n2_ n3_ n4_ n5_; clear ho hb hg hat))
                   go_roundg kj14
                   case measure => have := HK1.out; have := HK2.out; have := HJ14.out; omega
                   case rel => exact ⟨(y261), t250 :: q_2, (wrap64 (x9_2 + 1)), rsz, H', ⟨by have := HK1.out; have := HK2.out; have := HJ14.out; omega⟩, ⟨by (with_reducible repeat (first | apply Kd.N_alloc | apply Kd.N_drewN | apply Kd.N_drew)); exact HO263.out⟩, ⟨blkz⟩, ⟨by (with_reducible repeat (first | apply TSet.alloc | apply TSet.drewN | apply TSet.drew)); exact BK242.out⟩, ⟨bel⟩⟩
                  ·
                   rw [if_neg c31] at H
                   exact absurd H (by simp)
                 ·
                  rw [if_neg c30] at H
                  exact absurd H (by simp)
                ·
                 rw [if_neg c29] at H
                 exact absurd H (by simp)
               ·
                rw [if_neg c28] at H
                exact absurd H (by simp)
              ·
               rw [if_neg c27] at H
               exact absurd H (by simp)
         ·
          rw [if_neg c13] at H
          exact absurd H (by simp)
        ·
         rw [if_neg c12] at H
         exact absurd H (by simp)
       ·
        rw [if_neg c11] at H
        exact absurd H (by simp)
      ·
       rw [if_neg c10] at H
       have c10b0 : decide (x9_2 < (l0_1.length : Int)) = false := decide_eq_false c10
       clear c10
       have H' := Aside0.mk H
       clear H
       have hnb41 := NB237_242.out
       have hnc41 := NB242_237.out
       obtain ⟨hcz42_0, hcz42_1⟩ := bc2 BK237.out
       obtain ⟨hfz42_0, hfz42_1⟩ := bf2 BK237.out
       go_wp2
       go_roundg k2
       case measure => have := HK1.out; have := HK2.out; omega
       case rel => exact ⟨(x6_2), q_2, (wrap64 (x8_1 + 1)), rsz, H', ⟨by have := HK1.out; have := HK2.out; omega⟩, ⟨by (with_reducible repeat (first | apply Kd.N_alloc | apply Kd.N_drewN | apply Kd.N_drew)); exact HO_6.out⟩, ⟨blkz⟩, ⟨by (with_reducible repeat (first | apply TSet.alloc | apply TSet.drewN | apply TSet.drew)); exact BK242.out⟩, ⟨bel⟩⟩
   ·
    rw [if_neg c8] at H
    have c8b0 : decide (x8_1 < (x6_1.length : Int)) = false := decide_eq_false c8
    clear c8
    simp only [Option.some.injEq, Prod.mk.injEq] at H
    obtain ⟨rfl, rfl⟩ := H
    obtain ⟨Ao43, co43, eo43⟩ := Kd.N_slice HO_6.out
    subst eo43
    go_wp2
    go_ret2
    exact ⟨_, ezz, by (with_reducible repeat (first | apply Kd.N_alloc | apply Kd.N_drewN | apply Kd.N_drew)); exact Kd.N_mono HO_6.out (fun _ hk => hk.1), bel⟩

/-! ### dropperref06_Covers: function 25 -/
def dropperref06_Covers.l0 : Nat → List Int → List Int → Int → Option (Bool)
 | 0, _, _, _ => none
 | k + 1, x0, x1, x5 => if x5 < (x0.length : Int) then (if 0 ≤ x5 then (if x5 < (x1.length : Int) then (if (rd x0 x5) < (rd x1 x5) then (some false) else (dropperref06_Covers.l0 k x0 x1 (wrap64 (x5 + 1)))) else (none)) else (none)) else (some true)
def dropperref06_Covers.f (k : Nat) (l0 : List Int) (l1 : List Int) : Option (Bool) := dropperref06_Covers.l0 k l0 l1 0
set_option maxHeartbeats 8000000 in
set_option maxRecDepth 100000 in
theorem dropperref06_Covers.calls (k : Nat) (A0 : Option Addr) (c0 : Nat) (l0 : List Int) (A1 : Option Addr) (c1 : Nat) (l1 : List Int) (r : Bool) (w : World) (hr0 : Kd.C (Kd.int .i64) w A0 l0.length l0) (hc0 : l0.length ≤ c0) (hr1 : Kd.C (Kd.int .i64) w A1 l1.length l1) (hc1 : l1.length ≤ c1) (h : dropperref06_Covers.f k l0 l1 = some r) :
  Calls Try.prog 25 #[.slice A0 l0.length c0, .slice A1 l1.length c1] w fun e w' => e = .returned (.bool r) ∧ Drawn0 w w' := by
 have HR0 := Aside0.mk hr0
 have HC0 := Aside0.mk hc0
 clear hr0 hc0
 have HR1 := Aside0.mk hr1
 have HC1 := Aside0.mk hc1
 clear hr1 hc1
 have H : (dropperref06_Covers.l0 k l0 l1 0) = some r := h
 clear h
 have H' := Aside0.mk H
 clear H
 go_enter Try.func25, Try.ntmps25
 go_wp2
 repeat (go_quiet (fail); try go_wp2)
 go_loopg [5] k (fun kq v5 w' => ∃ (x5_1 : Int), v5 = .int .i64 x5_1 ∧ Aside0 (dropperref06_Covers.l0 kq l0 l1 x5_1 = some r) ∧ Aside0 (kq ≤ k) ∧ Drawn0 w w')
 case atStart => exact ⟨(0), rsz, H', ⟨Nat.le_refl _⟩, drz⟩
 case round =>
  clear H'
  (try clear c1); (try clear c2); (try clear p2)
  obtain ⟨x5_1, rfl, HA, HK1, ⟨m1, rfl⟩⟩ := hrel
  cases gk with
  | zero => exact absurd HA.out (by simp [dropperref06_Covers.l0])
  | succ k1 =>
   have H := HA.out
   clear HA
   simp only [dropperref06_Covers.l0] at H
   by_cases c3 : x5_1 < (l0.length : Int)
   ·
    rw [if_pos c3] at H
    have c3b0 : decide (x5_1 < (l0.length : Int)) = true := decide_eq_true c3
    clear c3
    by_cases c4 : 0 ≤ x5_1
    ·
     rw [if_pos c4] at H
     have c4b0 : decide (0 ≤ x5_1) = true := decide_eq_true c4
     clear c4
     by_cases c5 : x5_1 < (l1.length : Int)
     ·
      rw [if_pos c5] at H
      have c5b0 : decide (x5_1 < (l1.length : Int)) = true := decide_eq_true c5
      clear c5
      by_cases c6 : (rd l0 x5_1) < (rd l1 x5_1)
      ·
       rw [if_pos c6] at H
       have c6b0 : decide ((rd l0 x5_1) < (rd l1 x5_1)) = true := decide_eq_true c6
       clear c6
       obtain rfl := Option.some.inj H
       have p631 : 0 ≤ (x5_1 : Int) := of_decide_eq_true asz
       have q631 : x5_1 < (l0.length : Int) := of_decide_eq_true asz
       obtain ⟨ad631, e631, hx631_0⟩ := Kd.at_int HR0.out x5_1 p631 q631
       cases e631
       replace p631 := eq_true p631
       replace q631 := eq_true q631
       have p632 : 0 ≤ (x5_1 : Int) := of_decide_eq_true asz
       have q632 : x5_1 < (l1.length : Int) := of_decide_eq_true asz
       obtain ⟨ad632, e632, hx632_0⟩ := Kd.at_int HR1.out x5_1 p632 q632
       cases e632
       replace p632 := eq_true p632
       replace q632 := eq_true q632
       go_wp2
       repeat (go_quiet (fail); try go_wp2)
       go_ret
       exact ⟨by first | rfl | (simp; done) | (simp [*]; done), drz⟩
      ·
       rw [if_neg c6] at H
       have c6b0 : decide ((rd l0 x5_1) < (rd l1 x5_1)) = false := decide_eq_false c6
       clear c6
       have H' := Aside0.mk H
       clear H
       have p631 : 0 ≤ (x5_1 : Int) := of_decide_eq_true asz
       have q631 : x5_1 < (l0.length : Int) := of_decide_eq_true asz
       obtain ⟨ad631, e631, hx631_0⟩ := Kd.at_int HR0.out x5_1 p631 q631
       cases e631
       replace p631 := eq_true p631
       replace q631 := eq_true q631
       have p632 : 0 ≤ (x5_1 : Int) := of_decide_eq_true asz
       have q632 : x5_1 < (l1.length : Int) := of_decide_eq_true asz
       obtain ⟨ad632, e632, hx632_0⟩ := Kd.at_int HR1.out x5_1 p632 q632
       cases e632
       replace p632 := eq_true p632
       replace q632 := eq_true q632
       go_wp2
       repeat (go_quiet (fail); try go_wp2)
       go_roundg k1
       case measure => have := HK1.out; omega
       case rel => exact ⟨(wrap64 (x5_1 + 1)), rsz, H', ⟨by have := HK1.out; omega⟩, drz⟩
     ·
      rw [if_neg c5] at H
      exact absurd H (by simp)
    ·
     rw [if_neg c4] at H
     exact absurd H (by simp)
   ·
    rw [if_neg c3] at H
    have c3b0 : decide (x5_1 < (l0.length : Int)) = false := decide_eq_false c3
    clear c3
    obtain rfl := Option.some.inj H
    go_wp2
    repeat (go_quiet (fail); try go_wp2)
    go_ret
    exact ⟨by first | rfl | (simp; done) | (simp [*]; done), drz⟩

/-! ### dropperref06_way: function 82 -/
def dropperref06_way.l0 : Nat → List Int → Bool → List (S87) → Int → Option (List Int × Int)
 | 0, _, _, _, _ => none
 | k + 1, x2, x3, x11, x13 => if x13 < (x11.length : Int) then (if 0 ≤ x13 then ((dropperref06_Covers.f k ((rd_T87 x11 x13).f0) x2).bind fun t643 => (if t643 = true then (if x3 = true then (some ((rd_T87 x11 x13).f1, 0)) else ((dropperref06_Covers.f k x2 ((rd_T87 x11 x13).f0)).bind fun t646 => (if t646 = true then (some ((rd_T87 x11 x13).f1, 0)) else (dropperref06_way.l0 k x2 x3 x11 (wrap64 (x13 + 1)))))) else (dropperref06_way.l0 k x2 x3 x11 (wrap64 (x13 + 1))))) else (none)) else (some (([] : List Int), 5))
def dropperref06_way.f (k : Nat) (a0_0 : Int) (l0_1 : List (S64)) (l1 : List Int) (l2 : List Int) (a3 : Bool) : Option (List Int × Int) := (dropperref06_asked.f k a0_0 l0_1 (([l1, l2] : List (List Int)))).bind fun t637 => (if t637 = 0 then ((dropperref06_found.f k a0_0 l0_1 l1).bind fun bt638 => (if bt638.2 = true then (dropperref06_way.l0 k l2 a3 bt638.1 0) else (some (([] : List Int), 4)))) else (some (([] : List Int), t637)))
set_option maxHeartbeats 8000000 in
set_option maxRecDepth 100000 in
theorem dropperref06_way.calls (k : Nat) (a0_0 : Int) (A0_1 : Option Addr) (c0_1 : Nat) (l0_1 : List (S64)) (P1_ : Nat → Prop) (A1 : Option Addr) (c1 : Nat) (l1 : List Int) (P2_ : Nat → Prop) (A2 : Option Addr) (c2 : Nat) (l2 : List Int) (a3 : Bool) (r1 : List Int) (r2 : Int) (w : World) (hr0_1 : Kd.C k64 w A0_1 l0_1.length l0_1) (hc0_1 : l0_1.length ≤ c0_1) (hs1 : Kd.V (Kd.int .i64) 3 w w.heap.size (fun k_ => P1_ k_) (.slice A1 l1.length c1) l1) (hs2 : Kd.V (Kd.int .i64) 3 w w.heap.size (fun k_ => P2_ k_) (.slice A2 l2.length c2) l2) (h : dropperref06_way.f k a0_0 l0_1 l1 l2 a3 = some (r1, r2)) :
  Calls Try.prog 82 #[.agg #[.int .i64 a0_0, .slice A0_1 l0_1.length c0_1], .slice A1 l1.length c1, .slice A2 l2.length c2, .bool a3] w fun e w' => ∃ v0_ : Value, e = .returned (.tuple #[v0_, .int .i64 r2]) ∧ Kd.V (Kd.int .i64) 3 w' w.heap.size (fun k_ => ((P1_ k_ ∨ P2_ k_) ∨ w.heap.size ≤ k_)) v0_ r1 ∧ Below w.heap.size w w' := by
 have hu24 := Try.underlying24
 have HR0_1 := Aside0.mk hr0_1
 have HC0_1 := Aside0.mk hc0_1
 clear hr0_1 hc0_1
 have HO1 := Aside0.mk (show Kd.V (Kd.int .i64) 3 w w.heap.size (fun k_ => ((P1_ k_ ∨ P2_ k_) ∨ w.heap.size ≤ k_)) (.slice A1 l1.length c1) l1 from Kd.V_mono hs1 (fun k_ hk => .inl (.inl hk)))
 have HO2 := Aside0.mk (show Kd.V (Kd.int .i64) 3 w w.heap.size (fun k_ => ((P1_ k_ ∨ P2_ k_) ∨ w.heap.size ≤ k_)) (.slice A2 l2.length c2) l2 from Kd.V_mono hs2 (fun k_ hk => .inl (.inr hk)))
 have HB := Aside0.mk (Below.refl w.heap.size w)
 have H : ((dropperref06_asked.f k a0_0 l0_1 (([l1, l2] : List (List Int)))).bind fun t637 => (if t637 = 0 then ((dropperref06_found.f k a0_0 l0_1 l1).bind fun bt638 => (if bt638.2 = true then (dropperref06_way.l0 k l2 a3 bt638.1 0) else (some (([] : List Int), 4)))) else (some (([] : List Int), t637)))) = some (r1, r2) := h
 clear h
 obtain ⟨y634, hy634⟩ : ∃ y_ : List (List Int), y_ = (([l1, l2] : List (List Int))) := ⟨_, rfl⟩
 replace H : ((dropperref06_asked.f k a0_0 l0_1 y634).bind fun t637 => (if t637 = 0 then ((dropperref06_found.f k a0_0 l0_1 l1).bind fun bt638 => (if bt638.2 = true then (dropperref06_way.l0 k l2 a3 bt638.1 0) else (some (([] : List Int), 4)))) else (some (([] : List Int), t637)))) = some (r1, r2) := by first | (rw [hy634]; with_reducible exact H) | (have H2_ := (Option.bind_some _ _).symm.trans H; rw [hy634]; with_reducible exact H2_) | (have H2_ := (Option.bind_some _ _).symm.trans H; with_reducible exact H2_) | with_reducible exact H | (rw [hy634]; exact H) | exact H
 have Ny634 := Aside0.mk hy634
 clear hy634
 replace H := Option.bind_eq_some_iff.mp H
 obtain ⟨t637, A50, H⟩ := H
 try dsimp only at H
 have A5 := Aside0.mk A50
 clear A50
 by_cases c6 : t637 = 0
 ·
  rw [if_pos c6] at H
  have c6b0 : (t637 == 0) = true := beq_iff_eq.mpr c6
  have c6b1 : (t637 != 0) = false := bne_eq_false_iff_eq.mpr c6
  clear c6
  replace H := Option.bind_eq_some_iff.mp H
  obtain ⟨⟨t638, t641⟩, A70, H⟩ := H
  try dsimp only at H
  have A7 := Aside0.mk A70
  clear A70
  by_cases c8 : t641 = true
  ·
   subst c8
   rw [if_pos rfl] at H
   have H' := Aside0.mk H
   clear H
   go_enter Try.func82, Try.ntmps82
   go_wp2_with (first | ((with_reducible refine gate_dst (N := 4) rfl ?_); refine box_event ?hg (N := 4) ?hd (cs := #[.int .i64 a0_0, .slice A0_1 l0_1.length c0_1]) (t := 24) ?hr ?_; (case hd => rfl); (case hg => rfl); (case hr => first | (go_simp; done) | (go_simp; rfl)); intro gb633 hg w9 hbox hb; have BK633 := Aside0.mk (hbox); have GW633 := bsz (w := w) hg; have GE633 := GW633; replace HO1 := Aside0.mk (Kd.V_below (Kd.V_elderB (by (with_reducible repeat (first | apply Kd.V_alloc | apply Kd.V_drewN | apply Kd.V_drew)); exact HO1.out) gb633 (Nat.le_of_eq hg.symm)) hb); replace HO2 := Aside0.mk (Kd.V_below (Kd.V_elderB (by (with_reducible repeat (first | apply Kd.V_alloc | apply Kd.V_drewN | apply Kd.V_drew)); exact HO2.out) gb633 (Nat.le_of_eq hg.symm)) hb); replace HB := Aside0.mk (below_step bel hb); clear hb hbox hg; obtain ⟨hcz10_0, hcz10_1⟩ := bc2 BK633.out) | ((with_reducible refine gate_dst (N := 17) rfl ?_); refine Kd.N_lit (Kd.slice 3 (Kd.int .i64)) _ 25 ?hg (N' := 17) ?hd (xs := ([l1, l2] : List (List Int))) (inner := [.slice A1 l1.length c1, .slice A2 l2.length c2]) (ok := (fun k_ => ((P1_ k_ ∨ P2_ k_) ∨ w.heap.size ≤ k_) ∧ k_ ≠ gb633)) (okp := (fun k_ => ((P1_ k_ ∨ P2_ k_) ∨ w.heap.size ≤ k_) ∧ k_ ≠ gb633)) ?hr ?hp (fun _ hk => hk) ((show ∀ k_, w9.heap.size ≤ k_ → (fun k_ => ((P1_ k_ ∨ P2_ k_) ∨ w.heap.size ≤ k_) ∧ k_ ≠ gb633) k_ from fun k_ hk => ⟨(.inr (Nat.le_trans (below_size bel) hk)), Kd.freshB (g := gb633) (o := .cells #[.int .i64 a0_0, .slice A0_1 l0_1.length c0_1] 24 (0, 0)) blkz k_ hk⟩) _ (Nat.le_refl _)) (Below.refl _ _) (Nat.le_refl _) (by simp) ?_; (case hd => rfl); (case hg => rfl); (case hr => first | (go_simp; done) | (go_simp; rfl)); (case hp => exact (Reps.one (show Kd.FK (Kd.slice 3 (Kd.int .i64)) _ _ l1 [.slice A1 l1.length c1] from (Kd.FK_slice_mk (Kd.V_reads' (Kd.V_mono (ok' := (fun k_ => ((P1_ k_ ∨ P2_ k_) ∨ w.heap.size ≤ k_) ∧ k_ ≠ gb633)) (HO1.out) (fun k_ hk => ⟨hk.1, hk.2⟩))).2.1 (Kd.V_F (Kd.V_mono (ok' := (fun k_ => ((P1_ k_ ∨ P2_ k_) ∨ w.heap.size ≤ k_) ∧ k_ ≠ gb633)) (HO1.out) (fun k_ hk => ⟨hk.1, hk.2⟩))))) (Reps.one (show Kd.FK (Kd.slice 3 (Kd.int .i64)) _ _ l2 [.slice A2 l2.length c2] from (Kd.FK_slice_mk (Kd.V_reads' (Kd.V_mono (ok' := (fun k_ => ((P1_ k_ ∨ P2_ k_) ∨ w.heap.size ≤ k_) ∧ k_ ≠ gb633)) (HO2.out) (fun k_ hk => ⟨hk.1, hk.2⟩))).2.1 (Kd.V_F (Kd.V_mono (ok' := (fun k_ => ((P1_ k_ ∨ P2_ k_) ∨ w.heap.size ≤ k_) ∧ k_ ≠ gb633)) (HO2.out) (fun k_ hk => ⟨hk.1, hk.2⟩))))) (Reps.none _ _)))); intro v635 w11 ho12 hb hg_ hnew_; clear hg_ hnew_; (first | rw [← Ny634.out] at ho12 | (simp only [Int.reduceToNat] at ho12; rw [← Ny634.out] at ho12)); have HO636 := Aside0.mk (Kd.N_lower ho12 (below_size bel)); replace HO1 := Aside0.mk (Kd.V_elder' (by (with_reducible repeat (first | apply Kd.V_alloc | apply Kd.V_drewN | apply Kd.V_drew)); exact HO1.out) (Kd.N_base ho12) hb); replace HO2 := Aside0.mk (Kd.V_elder' (by (with_reducible repeat (first | apply Kd.V_alloc | apply Kd.V_drewN | apply Kd.V_drew)); exact HO2.out) (Kd.N_base ho12) hb); replace BK633 := Aside0.mk (blk_below (g := gb633) blkz hb); replace HB := Aside0.mk (below_step bel hb); clear hb ho12; obtain ⟨Ao13, co13, eo13⟩ := Kd.N_slice HO636.out; subst eo13) | ((with_reducible refine gate_callee (f := 72) rfl ?_); refine goesL_ (some 18) rfl rfl Try.func72 (by kernel_rfl) rfl #[.agg #[.int .i64 a0_0, .slice A0_1 l0_1.length c0_1], .slice Ao13 y634.length co13] rfl mapz ?_; (with_reducible refine (dropperref06_asked.calls k a0_0 _ _ l0_1 _ _ y634 t637 _ (cbz HR0_1) HC0_1.out ?side3 ?side4 A5.out).mono ?_); (case side3 => repeat (first | exact (Kd.N_reads' HO636.out).2.2 | (with_reducible refine Kd.C_alloc ?_ _) | (with_reducible refine Kd.C_drewN ?_ _) | (with_reducible refine Kd.C_drew ?_))); (case side4 => exact (Kd.N_reads' HO636.out).2.1); rintro e w14 ⟨rfl, hb⟩; refine ⟨_, rfl, ?_⟩; replace HO1 := Aside0.mk (Kd.V_below (by (with_reducible repeat (first | apply Kd.V_alloc | apply Kd.V_drewN | apply Kd.V_drew)); exact HO1.out) hb); replace HO2 := Aside0.mk (Kd.V_below (by (with_reducible repeat (first | apply Kd.V_alloc | apply Kd.V_drewN | apply Kd.V_drew)); exact HO2.out) hb); replace HO636 := Aside0.mk (Kd.N_below (by (with_reducible repeat (first | apply Kd.N_alloc | apply Kd.N_drewN | apply Kd.N_drew)); exact HO636.out) hb); replace BK633 := Aside0.mk (blk_below (g := gb633) blkz hb); replace HB := Aside0.mk (below_step bel hb); clear hb; obtain ⟨hcz15_0, hcz15_1⟩ := bc2 BK633.out) | ((with_reducible refine gate_callee (f := 74) rfl ?_); refine goesL_ (some 25) rfl rfl Try.func74 (by kernel_rfl) rfl #[.agg #[.int .i64 a0_0, .slice A0_1 l0_1.length c0_1], .slice A1 l1.length c1] rfl mapz ?_; (with_reducible refine (dropperref06_found.calls k a0_0 _ _ l0_1 (fun k_ => ((((P1_ k_ ∨ P2_ k_) ∨ w.heap.size ≤ k_) ∧ k_ ≠ gb633) ∧ some k_ ≠ (.slice Ao13 y634.length co13 : Value).ownBlock)) _ _ l1 t638 true _ (cbz HR0_1) HC0_1.out HO1.out A7.out).mono ?_); rintro e w16 ⟨v639, rfl, ho0, hb⟩; refine ⟨_, rfl, ?_⟩; have HO640 := Aside0.mk (Kd.N_lower (Kd.N_mono (ok' := fun k_ => ((P1_ k_ ∨ P2_ k_) ∨ w.heap.size ≤ k_) ∧ some k_ ≠ (.slice Ao13 y634.length co13 : Value).ownBlock ∧ k_ ≠ gb633) ho0 (fun k_ hk_ => ⟨Or.elim hk_ (fun hs_ => hs_.1.1) (fun hn_ => (.inr (Nat.le_trans (below_size bel) hn_))), Or.elim hk_ (fun hs_ => hs_.2) (fun hn_ => (Kd.fresh' (Kd.N_lt (by (with_reducible repeat (first | apply Kd.N_alloc | apply Kd.N_drewN | apply Kd.N_drew)); exact HO636.out)) k_ hn_)), Or.elim hk_ (fun hs_ => hs_.1.2) (fun hn_ => (Kd.freshB (g := gb633) (o := .cells #[.int .i64 a0_0, .slice A0_1 l0_1.length c0_1] 24 (0, 0)) blkz k_ hn_))⟩)) (below_size bel)); replace HO1 := Aside0.mk (Kd.V_elder' (by (with_reducible repeat (first | apply Kd.V_alloc | apply Kd.V_drewN | apply Kd.V_drew)); exact HO1.out) (Kd.N_base ho0) hb); replace HO2 := Aside0.mk (Kd.V_elder' (by (with_reducible repeat (first | apply Kd.V_alloc | apply Kd.V_drewN | apply Kd.V_drew)); exact HO2.out) (Kd.N_base ho0) hb); replace HO636 := Aside0.mk (Kd.N_elder' (by (with_reducible repeat (first | apply Kd.N_alloc | apply Kd.N_drewN | apply Kd.N_drew)); exact HO636.out) (Kd.N_base ho0) hb); replace BK633 := Aside0.mk (blk_below (g := gb633) blkz hb); replace HB := Aside0.mk (below_step bel hb); (try clear hb); (try clear hb2); (try clear hk); (try clear hi); (try clear ho0)))
   go_loopg [13] k (fun kq v13 w' => ∃ (x13_1 : Int), v13 = .int .i64 x13_1 ∧ Aside0 (dropperref06_way.l0 kq l2 a3 t638 x13_1 = some (r1, r2)) ∧ Aside0 (kq ≤ k) ∧ Aside0 (Kd.V (Kd.int .i64) 3 w' w.heap.size (fun k_ => ((P1_ k_ ∨ P2_ k_) ∨ w.heap.size ≤ k_) ∧ some k_ ≠ (v639 : Value).ownBlock ∧ k_ ≠ gb633) (.slice A2 l2.length c2) l2) ∧ Aside0 (Kd.N k87 87 w' w.heap.size (fun k_ => ((P1_ k_ ∨ P2_ k_) ∨ w.heap.size ≤ k_) ∧ k_ ≠ gb633) v639 t638) ∧ Aside0 (w'.heap[gb633]? = some (.cells #[.int .i64 a0_0, (.slice A0_1 l0_1.length c0_1)] 24 (0, 0))) ∧ Aside0 (Below w.heap.size w w'))
   case atStart => exact ⟨(0), rsz, H', ⟨Nat.le_refl _⟩, ⟨by (with_reducible repeat (first | apply Kd.V_alloc | apply Kd.V_drewN | apply Kd.V_drew)); exact Kd.V_mono HO2.out (fun _ hk => ⟨hk.1.1.1, ⟨hk.2, hk.1.1.2⟩⟩)⟩, ⟨by (with_reducible repeat (first | apply Kd.N_alloc | apply Kd.N_drewN | apply Kd.N_drew)); exact Kd.N_mono HO640.out (fun _ hk => ⟨hk.1, hk.2.2⟩)⟩, ⟨blkz⟩, ⟨bel⟩⟩
   case round =>
    clear H'
    (try clear c1); (try clear c2); (try clear p2); (try clear c6); (try clear c6b0); (try clear c6b1); (try clear c7); (try clear c8); (try clear hcz10_0); (try clear hcz10_1); (try clear hcz15_0); (try clear hcz15_1); (try clear hfz10_0); (try clear hfz10_1); (try clear hfz15_0); (try clear hfz15_1)
    obtain ⟨x13_1, rfl, HA, HK1, HO_2, HO_11, BK633, HB⟩ := hrel
    cases gk with
    | zero => exact absurd HA.out (by simp [dropperref06_way.l0])
    | succ k1 =>
     have H := HA.out
     clear HA
     simp only [dropperref06_way.l0] at H
     by_cases c17 : x13_1 < (t638.length : Int)
     ·
      rw [if_pos c17] at H
      have c17b0 : decide (x13_1 < (t638.length : Int)) = true := decide_eq_true c17
      clear c17
      by_cases c18 : 0 ≤ x13_1
      ·
       rw [if_pos c18] at H
       have c18b0 : decide (0 ≤ x13_1) = true := decide_eq_true c18
       clear c18
       replace H := Option.bind_eq_some_iff.mp H
       obtain ⟨t643, A190, H⟩ := H
       try dsimp only at H
       have A19 := Aside0.mk A190
       clear A190
       by_cases c20 : t643 = true
       ·
        subst c20
        rw [if_pos rfl] at H
        by_cases c21 : a3 = true
        ·
         subst c21
         rw [if_pos rfl] at H
         simp only [Option.some.injEq, Prod.mk.injEq] at H
         obtain ⟨rfl, rfl⟩ := H
         obtain ⟨Ao22, co22, eo22⟩ := Kd.N_slice HO_11.out
         subst eo22
         have p642 : 0 ≤ (x13_1 : Int) := of_decide_eq_true asz
         have q642 : x13_1 < (t638.length : Int) := of_decide_eq_true asz
         obtain ⟨ad642, A642_0, c642_0, A642_1, c642_1, e642, hx642_0, hx642_1, hl642_0, hi642_0, hl642_1, hi642_1⟩ := at_T87 (Kd.N_reads' HO_11.out).2.2 x13_1 p642 q642
         cases e642
         obtain ⟨ce642, hce642, hMe642, hcc642⟩ := Kd.N_get HO_11.out z87 x13_1 p642 (by first | exact q642 | exact of_decide_eq_true asz | (have e_ := (Kd.N_reads' HO_11.out).1; omega))
         obtain ⟨ua642_0, uc642_0, ua642_1, uc642_1, rfl, ul642_0, ge642_0, ul642_1, ge642_1⟩ := k87_openF hMe642
         have hv642_0 := hcc642 0 _ rfl
         rw [Nat.add_zero] at hv642_0
         replace hv642_0 := Option.some.inj (hv642_0.symm.trans hx642_0)
         injection hv642_0 with hva_ hvn_ hvc_
         rw [hva_] at ge642_0
         rw [hvc_] at ul642_0
         have HL642_0 := Aside0.mk (show Kd.V (Kd.int .i64) 3 _ w.heap.size _ _ ((rd_T87 t638 x13_1).f0) from Kd.V_mk ul642_0 ge642_0)
         clear hva_ hvn_ hvc_ ge642_0 ul642_0
         have hv642_1 := hcc642 1 _ rfl
         rw [add_field _ _ 1 (by omega)] at hv642_1
         replace hv642_1 := Option.some.inj (hv642_1.symm.trans hx642_1)
         injection hv642_1 with hva_ hvn_ hvc_
         rw [hva_] at ge642_1
         rw [hvc_] at ul642_1
         have HL642_1 := Aside0.mk (show Kd.V (Kd.int .i64) 3 _ w.heap.size _ _ ((rd_T87 t638 x13_1).f1) from Kd.V_mk ul642_1 ge642_1)
         clear hva_ hvn_ hvc_ ge642_1 ul642_1
         clear hcc642 hce642
         have HR642_0 := Aside0.mk hi642_0
         have HC642_0 := Aside0.mk hl642_0
         clear hi642_0 hl642_0
         have HR642_1 := Aside0.mk hi642_1
         have HC642_1 := Aside0.mk hl642_1
         clear hi642_1 hl642_1
         replace p642 := eq_true p642
         replace q642 := eq_true q642
         go_wp2_with (first | ((with_reducible refine gate_callee (f := 25) rfl ?_); refine goesL_ (some 42) rfl rfl Try.func25 (by kernel_rfl) rfl #[.slice A642_0 ((rd_T87 t638 x13_1).f0).length c642_0, .slice A2 l2.length c2] rfl mapz ?_; (with_reducible refine (dropperref06_Covers.calls k1 _ _ ((rd_T87 t638 x13_1).f0) _ _ l2 true _ ?side1 HC642_0.out ?side3 ?side4 A19.out).mono ?_); (case side1 => repeat (first | exact (by repeat (first | (with_reducible exact HR642_0.out) | (with_reducible refine Kd.C_alloc ?_ _) | (with_reducible refine Kd.C_drewN ?_ _) | (with_reducible refine Kd.C_drew ?_) | exact HR642_0.out)) | (with_reducible refine Kd.C_alloc ?_ _) | (with_reducible refine Kd.C_drewN ?_ _) | (with_reducible refine Kd.C_drew ?_))); (case side3 => repeat (first | exact (Kd.V_reads' HO_2.out).2.2 | (with_reducible refine Kd.C_alloc ?_ _) | (with_reducible refine Kd.C_drewN ?_ _) | (with_reducible refine Kd.C_drew ?_))); (case side4 => exact (Kd.V_reads' HO_2.out).2.1); rintro e w' ⟨rfl, ⟨nd, rfl⟩⟩; refine ⟨_, rfl, ?_⟩; have p644 : 0 ≤ (x13_1 : Int) := of_decide_eq_true asz; have q644 : x13_1 < (t638.length : Int) := of_decide_eq_true asz; obtain ⟨ad644, A644_0, c644_0, A644_1, c644_1, e644, hx644_0, hx644_1, hl644_0, hi644_0, hl644_1, hi644_1⟩ := at_T87 (Kd.N_reads' HO_11.out).2.2 x13_1 p644 q644; obtain rfl : ad642 = ad644 := (by injection e644); obtain ⟨ce644, hce644, hMe644, hcc644⟩ := Kd.N_get HO_11.out z87 x13_1 p644 (by first | exact q644 | exact of_decide_eq_true asz | (have e_ := (Kd.N_reads' HO_11.out).1; omega)); obtain ⟨ua644_0, uc644_0, ua644_1, uc644_1, rfl, ul644_0, ge644_0, ul644_1, ge644_1⟩ := k87_openF hMe644; have hv644_0 := hcc644 0 _ rfl; rw [Nat.add_zero] at hv644_0; replace hv644_0 := Option.some.inj (hv644_0.symm.trans hx644_0); injection hv644_0 with hva_ hvn_ hvc_; rw [hva_] at ge644_0; rw [hvc_] at ul644_0; have HL644_0 := Aside0.mk (show Kd.V (Kd.int .i64) 3 _ w.heap.size _ _ ((rd_T87 t638 x13_1).f0) from Kd.V_mk ul644_0 ge644_0); clear hva_ hvn_ hvc_ ge644_0 ul644_0; have hv644_1 := hcc644 1 _ rfl; rw [add_field _ _ 1 (by omega)] at hv644_1; replace hv644_1 := Option.some.inj (hv644_1.symm.trans hx644_1); injection hv644_1 with hva_ hvn_ hvc_; rw [hva_] at ge644_1; rw [hvc_] at ul644_1; have HL644_1 := Aside0.mk (show Kd.V (Kd.int .i64) 3 _ w.heap.size _ _ ((rd_T87 t638 x13_1).f1) from Kd.V_mk ul644_1 ge644_1); clear hva_ hvn_ hvc_ ge644_1 ul644_1; clear hcc644 hce644; have HR644_0 := Aside0.mk hi644_0; have HC644_0 := Aside0.mk hl644_0; clear hi644_0 hl644_0; have HR644_1 := Aside0.mk hi644_1; have HC644_1 := Aside0.mk hl644_1; clear hi644_1 hl644_1; replace p644 := eq_true p644; replace q644 := eq_true q644; have ea_ := Option.some.inj (hx642_0.symm.trans hx644_0); injection ea_ with ea_ en_ ec_; subst ea_; subst ec_; clear en_; have ea_ := Option.some.inj (hx642_1.symm.trans hx644_1); injection ea_ with ea_ en_ ec_; subst ea_; subst ec_; clear en_))
         go_ret2
         exact ⟨_, ezz, by (with_reducible repeat (first | apply Kd.V_alloc | apply Kd.V_drewN | apply Kd.V_drew)); exact Kd.V_mono HL644_1.out (fun _ hk => hk.1.1), bel⟩
        ·
         replace c21 := Bool.eq_false_iff.mpr c21
         subst c21
         rw [if_neg (show ¬ (false = true) by decide)] at H
         replace H := Option.bind_eq_some_iff.mp H
         obtain ⟨t646, A230, H⟩ := H
         try dsimp only at H
         have A23 := Aside0.mk A230
         clear A230
         by_cases c24 : t646 = true
         ·
          subst c24
          rw [if_pos rfl] at H
          simp only [Option.some.injEq, Prod.mk.injEq] at H
          obtain ⟨rfl, rfl⟩ := H
          obtain ⟨Ao25, co25, eo25⟩ := Kd.N_slice HO_11.out
          subst eo25
          have p642 : 0 ≤ (x13_1 : Int) := of_decide_eq_true asz
          have q642 : x13_1 < (t638.length : Int) := of_decide_eq_true asz
          obtain ⟨ad642, A642_0, c642_0, A642_1, c642_1, e642, hx642_0, hx642_1, hl642_0, hi642_0, hl642_1, hi642_1⟩ := at_T87 (Kd.N_reads' HO_11.out).2.2 x13_1 p642 q642
          cases e642
          obtain ⟨ce642, hce642, hMe642, hcc642⟩ := Kd.N_get HO_11.out z87 x13_1 p642 (by first | exact q642 | exact of_decide_eq_true asz | (have e_ := (Kd.N_reads' HO_11.out).1; omega))
          obtain ⟨ua642_0, uc642_0, ua642_1, uc642_1, rfl, ul642_0, ge642_0, ul642_1, ge642_1⟩ := k87_openF hMe642
          have hv642_0 := hcc642 0 _ rfl
          rw [Nat.add_zero] at hv642_0
          replace hv642_0 := Option.some.inj (hv642_0.symm.trans hx642_0)
          injection hv642_0 with hva_ hvn_ hvc_
          rw [hva_] at ge642_0
          rw [hvc_] at ul642_0
          have HL642_0 := Aside0.mk (show Kd.V (Kd.int .i64) 3 _ w.heap.size _ _ ((rd_T87 t638 x13_1).f0) from Kd.V_mk ul642_0 ge642_0)
          clear hva_ hvn_ hvc_ ge642_0 ul642_0
          have hv642_1 := hcc642 1 _ rfl
          rw [add_field _ _ 1 (by omega)] at hv642_1
          replace hv642_1 := Option.some.inj (hv642_1.symm.trans hx642_1)
          injection hv642_1 with hva_ hvn_ hvc_
          rw [hva_] at ge642_1
          rw [hvc_] at ul642_1
          have HL642_1 := Aside0.mk (show Kd.V (Kd.int .i64) 3 _ w.heap.size _ _ ((rd_T87 t638 x13_1).f1) from Kd.V_mk ul642_1 ge642_1)
          clear hva_ hvn_ hvc_ ge642_1 ul642_1
          clear hcc642 hce642
          have HR642_0 := Aside0.mk hi642_0
          have HC642_0 := Aside0.mk hl642_0
          clear hi642_0 hl642_0
          have HR642_1 := Aside0.mk hi642_1
          have HC642_1 := Aside0.mk hl642_1
          clear hi642_1 hl642_1
          replace p642 := eq_true p642
          replace q642 := eq_true q642
          go_wp2_with (first | ((with_reducible refine gate_callee (f := 25) rfl ?_); refine goesL_ (some 42) rfl rfl Try.func25 (by kernel_rfl) rfl #[.slice A642_0 ((rd_T87 t638 x13_1).f0).length c642_0, .slice A2 l2.length c2] rfl mapz ?_; (with_reducible refine (dropperref06_Covers.calls k1 _ _ ((rd_T87 t638 x13_1).f0) _ _ l2 true _ ?side1 HC642_0.out ?side3 ?side4 A19.out).mono ?_); (case side1 => repeat (first | exact (by repeat (first | (with_reducible exact HR642_0.out) | (with_reducible refine Kd.C_alloc ?_ _) | (with_reducible refine Kd.C_drewN ?_ _) | (with_reducible refine Kd.C_drew ?_) | exact HR642_0.out)) | (with_reducible refine Kd.C_alloc ?_ _) | (with_reducible refine Kd.C_drewN ?_ _) | (with_reducible refine Kd.C_drew ?_))); (case side3 => repeat (first | exact (Kd.V_reads' HO_2.out).2.2 | (with_reducible refine Kd.C_alloc ?_ _) | (with_reducible refine Kd.C_drewN ?_ _) | (with_reducible refine Kd.C_drew ?_))); (case side4 => exact (Kd.V_reads' HO_2.out).2.1); rintro e w' ⟨rfl, ⟨nd, rfl⟩⟩; refine ⟨_, rfl, ?_⟩; have p645 : 0 ≤ (x13_1 : Int) := of_decide_eq_true asz; have q645 : x13_1 < (t638.length : Int) := of_decide_eq_true asz; obtain ⟨ad645, A645_0, c645_0, A645_1, c645_1, e645, hx645_0, hx645_1, hl645_0, hi645_0, hl645_1, hi645_1⟩ := at_T87 (Kd.N_reads' HO_11.out).2.2 x13_1 p645 q645; obtain rfl : ad642 = ad645 := (by injection e645); obtain ⟨ce645, hce645, hMe645, hcc645⟩ := Kd.N_get HO_11.out z87 x13_1 p645 (by first | exact q645 | exact of_decide_eq_true asz | (have e_ := (Kd.N_reads' HO_11.out).1; omega)); obtain ⟨ua645_0, uc645_0, ua645_1, uc645_1, rfl, ul645_0, ge645_0, ul645_1, ge645_1⟩ := k87_openF hMe645; have hv645_0 := hcc645 0 _ rfl; rw [Nat.add_zero] at hv645_0; replace hv645_0 := Option.some.inj (hv645_0.symm.trans hx645_0); injection hv645_0 with hva_ hvn_ hvc_; rw [hva_] at ge645_0; rw [hvc_] at ul645_0; have HL645_0 := Aside0.mk (show Kd.V (Kd.int .i64) 3 _ w.heap.size _ _ ((rd_T87 t638 x13_1).f0) from Kd.V_mk ul645_0 ge645_0); clear hva_ hvn_ hvc_ ge645_0 ul645_0; have hv645_1 := hcc645 1 _ rfl; rw [add_field _ _ 1 (by omega)] at hv645_1; replace hv645_1 := Option.some.inj (hv645_1.symm.trans hx645_1); injection hv645_1 with hva_ hvn_ hvc_; rw [hva_] at ge645_1; rw [hvc_] at ul645_1; have HL645_1 := Aside0.mk (show Kd.V (Kd.int .i64) 3 _ w.heap.size _ _ ((rd_T87 t638 x13_1).f1) from Kd.V_mk ul645_1 ge645_1); clear hva_ hvn_ hvc_ ge645_1 ul645_1; clear hcc645 hce645; have HR645_0 := Aside0.mk hi645_0; have HC645_0 := Aside0.mk hl645_0; clear hi645_0 hl645_0; have HR645_1 := Aside0.mk hi645_1; have HC645_1 := Aside0.mk hl645_1; clear hi645_1 hl645_1; replace p645 := eq_true p645; replace q645 := eq_true q645; have ea_ := Option.some.inj (hx642_0.symm.trans hx645_0); injection ea_ with ea_ en_ ec_; subst ea_; subst ec_; clear en_; have ea_ := Option.some.inj (hx642_1.symm.trans hx645_1); injection ea_ with ea_ en_ ec_; subst ea_; subst ec_; clear en_) | (go_at_call 25; (with_reducible refine (dropperref06_Covers.calls k1 _ _ l2 _ _ ((rd_T87 t638 x13_1).f0) true _ ?side1 ?side2 ?side3 HC645_0.out A23.out).mono ?_); (case side1 => repeat (first | exact (Kd.V_reads' HO_2.out).2.2 | (with_reducible refine Kd.C_alloc ?_ _) | (with_reducible refine Kd.C_drewN ?_ _) | (with_reducible refine Kd.C_drew ?_))); (case side2 => exact (Kd.V_reads' HO_2.out).2.1); (case side3 => repeat (first | exact (by repeat (first | (with_reducible exact HR645_0.out) | (with_reducible refine Kd.C_alloc ?_ _) | (with_reducible refine Kd.C_drewN ?_ _) | (with_reducible refine Kd.C_drew ?_) | exact HR645_0.out)) | (with_reducible refine Kd.C_alloc ?_ _) | (with_reducible refine Kd.C_drewN ?_ _) | (with_reducible refine Kd.C_drew ?_))); rintro e w' ⟨rfl, ⟨nd, rfl⟩⟩; have p647 : 0 ≤ (x13_1 : Int) := of_decide_eq_true asz; have q647 : x13_1 < (t638.length : Int) := of_decide_eq_true asz; obtain ⟨ad647, A647_0, c647_0, A647_1, c647_1, e647, hx647_0, hx647_1, hl647_0, hi647_0, hl647_1, hi647_1⟩ := at_T87 (Kd.N_reads' HO_11.out).2.2 x13_1 p647 q647; obtain rfl : ad642 = ad647 := (by injection e647); obtain ⟨ce647, hce647, hMe647, hcc647⟩ := Kd.N_get HO_11.out z87 x13_1 p647 (by first | exact q647 | exact of_decide_eq_true asz | (have e_ := (Kd.N_reads' HO_11.out).1; omega)); obtain ⟨ua647_0, uc647_0, ua647_1, uc647_1, rfl, ul647_0, ge647_0, ul647_1, ge647_1⟩ := k87_openF hMe647; have hv647_0 := hcc647 0 _ rfl; rw [Nat.add_zero] at hv647_0; replace hv647_0 := Option.some.inj (hv647_0.symm.trans hx647_0); injection hv647_0 with hva_ hvn_ hvc_; rw [hva_] at ge647_0; rw [hvc_] at ul647_0; have HL647_0 := Aside0.mk (show Kd.V (Kd.int .i64) 3 _ w.heap.size _ _ ((rd_T87 t638 x13_1).f0) from Kd.V_mk ul647_0 ge647_0); clear hva_ hvn_ hvc_ ge647_0 ul647_0; have hv647_1 := hcc647 1 _ rfl; rw [add_field _ _ 1 (by omega)] at hv647_1; replace hv647_1 := Option.some.inj (hv647_1.symm.trans hx647_1); injection hv647_1 with hva_ hvn_ hvc_; rw [hva_] at ge647_1; rw [hvc_] at ul647_1; have HL647_1 := Aside0.mk (show Kd.V (Kd.int .i64) 3 _ w.heap.size _ _ ((rd_T87 t638 x13_1).f1) from Kd.V_mk ul647_1 ge647_1); clear hva_ hvn_ hvc_ ge647_1 ul647_1; clear hcc647 hce647; have HR647_0 := Aside0.mk hi647_0; have HC647_0 := Aside0.mk hl647_0; clear hi647_0 hl647_0; have HR647_1 := Aside0.mk hi647_1; have HC647_1 := Aside0.mk hl647_1; clear hi647_1 hl647_1; replace p647 := eq_true p647; replace q647 := eq_true q647; have ea_ := Option.some.inj (hx642_0.symm.trans hx647_0); injection ea_ with ea_ en_ ec_; subst ea_; subst ec_; clear en_; have ea_ := Option.some.inj (hx642_1.symm.trans hx647_1); injection ea_ with ea_ en_ ec_; subst ea_; subst ec_; clear en_))
          go_ret2
          exact ⟨_, ezz, by (with_reducible repeat (first | apply Kd.V_alloc | apply Kd.V_drewN | apply Kd.V_drew)); exact Kd.V_mono HL647_1.out (fun _ hk => hk.1.1), bel⟩
         ·
          replace c24 := Bool.eq_false_iff.mpr c24
          subst c24
          rw [if_neg (show ¬ (false = true) by decide)] at H
          have H' := Aside0.mk H
          clear H
          obtain ⟨Ao26, co26, eo26⟩ := Kd.N_slice HO_11.out
          subst eo26
          have p642 : 0 ≤ (x13_1 : Int) := of_decide_eq_true asz
          have q642 : x13_1 < (t638.length : Int) := of_decide_eq_true asz
          obtain ⟨ad642, A642_0, c642_0, A642_1, c642_1, e642, hx642_0, hx642_1, hl642_0, hi642_0, hl642_1, hi642_1⟩ := at_T87 (Kd.N_reads' HO_11.out).2.2 x13_1 p642 q642
          cases e642
          obtain ⟨ce642, hce642, hMe642, hcc642⟩ := Kd.N_get HO_11.out z87 x13_1 p642 (by first | exact q642 | exact of_decide_eq_true asz | (have e_ := (Kd.N_reads' HO_11.out).1; omega))
          obtain ⟨ua642_0, uc642_0, ua642_1, uc642_1, rfl, ul642_0, ge642_0, ul642_1, ge642_1⟩ := k87_openF hMe642
          have hv642_0 := hcc642 0 _ rfl
          rw [Nat.add_zero] at hv642_0
          replace hv642_0 := Option.some.inj (hv642_0.symm.trans hx642_0)
          injection hv642_0 with hva_ hvn_ hvc_
          rw [hva_] at ge642_0
          rw [hvc_] at ul642_0
          have HL642_0 := Aside0.mk (show Kd.V (Kd.int .i64) 3 _ w.heap.size _ _ ((rd_T87 t638 x13_1).f0) from Kd.V_mk ul642_0 ge642_0)
          clear hva_ hvn_ hvc_ ge642_0 ul642_0
          have hv642_1 := hcc642 1 _ rfl
          rw [add_field _ _ 1 (by omega)] at hv642_1
          replace hv642_1 := Option.some.inj (hv642_1.symm.trans hx642_1)
          injection hv642_1 with hva_ hvn_ hvc_
          rw [hva_] at ge642_1
          rw [hvc_] at ul642_1
          have HL642_1 := Aside0.mk (show Kd.V (Kd.int .i64) 3 _ w.heap.size _ _ ((rd_T87 t638 x13_1).f1) from Kd.V_mk ul642_1 ge642_1)
          clear hva_ hvn_ hvc_ ge642_1 ul642_1
          clear hcc642 hce642
          have HR642_0 := Aside0.mk hi642_0
          have HC642_0 := Aside0.mk hl642_0
          clear hi642_0 hl642_0
          have HR642_1 := Aside0.mk hi642_1
          have HC642_1 := Aside0.mk hl642_1
          clear hi642_1 hl642_1
          replace p642 := eq_true p642
          replace q642 := eq_true q642
          go_wp2_with (first | ((with_reducible refine gate_callee (f := 25) rfl ?_); refine goesL_ (some 42) rfl rfl Try.func25 (by kernel_rfl) rfl #[.slice A642_0 ((rd_T87 t638 x13_1).f0).length c642_0, .slice A2 l2.length c2] rfl mapz ?_; (with_reducible refine (dropperref06_Covers.calls k1 _ _ ((rd_T87 t638 x13_1).f0) _ _ l2 true _ ?side1 HC642_0.out ?side3 ?side4 A19.out).mono ?_); (case side1 => repeat (first | exact (by repeat (first | (with_reducible exact HR642_0.out) | (with_reducible refine Kd.C_alloc ?_ _) | (with_reducible refine Kd.C_drewN ?_ _) | (with_reducible refine Kd.C_drew ?_) | exact HR642_0.out)) | (with_reducible refine Kd.C_alloc ?_ _) | (with_reducible refine Kd.C_drewN ?_ _) | (with_reducible refine Kd.C_drew ?_))); (case side3 => repeat (first | exact (Kd.V_reads' HO_2.out).2.2 | (with_reducible refine Kd.C_alloc ?_ _) | (with_reducible refine Kd.C_drewN ?_ _) | (with_reducible refine Kd.C_drew ?_))); (case side4 => exact (Kd.V_reads' HO_2.out).2.1); rintro e w' ⟨rfl, ⟨nd, rfl⟩⟩; refine ⟨_, rfl, ?_⟩; have p645 : 0 ≤ (x13_1 : Int) := of_decide_eq_true asz; have q645 : x13_1 < (t638.length : Int) := of_decide_eq_true asz; obtain ⟨ad645, A645_0, c645_0, A645_1, c645_1, e645, hx645_0, hx645_1, hl645_0, hi645_0, hl645_1, hi645_1⟩ := at_T87 (Kd.N_reads' HO_11.out).2.2 x13_1 p645 q645; obtain rfl : ad642 = ad645 := (by injection e645); obtain ⟨ce645, hce645, hMe645, hcc645⟩ := Kd.N_get HO_11.out z87 x13_1 p645 (by first | exact q645 | exact of_decide_eq_true asz | (have e_ := (Kd.N_reads' HO_11.out).1; omega)); obtain ⟨ua645_0, uc645_0, ua645_1, uc645_1, rfl, ul645_0, ge645_0, ul645_1, ge645_1⟩ := k87_openF hMe645; have hv645_0 := hcc645 0 _ rfl; rw [Nat.add_zero] at hv645_0; replace hv645_0 := Option.some.inj (hv645_0.symm.trans hx645_0); injection hv645_0 with hva_ hvn_ hvc_; rw [hva_] at ge645_0; rw [hvc_] at ul645_0; have HL645_0 := Aside0.mk (show Kd.V (Kd.int .i64) 3 _ w.heap.size _ _ ((rd_T87 t638 x13_1).f0) from Kd.V_mk ul645_0 ge645_0); clear hva_ hvn_ hvc_ ge645_0 ul645_0; have hv645_1 := hcc645 1 _ rfl; rw [add_field _ _ 1 (by omega)] at hv645_1; replace hv645_1 := Option.some.inj (hv645_1.symm.trans hx645_1); injection hv645_1 with hva_ hvn_ hvc_; rw [hva_] at ge645_1; rw [hvc_] at ul645_1; have HL645_1 := Aside0.mk (show Kd.V (Kd.int .i64) 3 _ w.heap.size _ _ ((rd_T87 t638 x13_1).f1) from Kd.V_mk ul645_1 ge645_1); clear hva_ hvn_ hvc_ ge645_1 ul645_1; clear hcc645 hce645; have HR645_0 := Aside0.mk hi645_0; have HC645_0 := Aside0.mk hl645_0; clear hi645_0 hl645_0; have HR645_1 := Aside0.mk hi645_1; have HC645_1 := Aside0.mk hl645_1; clear hi645_1 hl645_1; replace p645 := eq_true p645; replace q645 := eq_true q645; have ea_ := Option.some.inj (hx642_0.symm.trans hx645_0); injection ea_ with ea_ en_ ec_; subst ea_; subst ec_; clear en_; have ea_ := Option.some.inj (hx642_1.symm.trans hx645_1); injection ea_ with ea_ en_ ec_; subst ea_; subst ec_; clear en_) | (go_at_call 25; (with_reducible refine (dropperref06_Covers.calls k1 _ _ l2 _ _ ((rd_T87 t638 x13_1).f0) false _ ?side1 ?side2 ?side3 HC645_0.out A23.out).mono ?_); (case side1 => repeat (first | exact (Kd.V_reads' HO_2.out).2.2 | (with_reducible refine Kd.C_alloc ?_ _) | (with_reducible refine Kd.C_drewN ?_ _) | (with_reducible refine Kd.C_drew ?_))); (case side2 => exact (Kd.V_reads' HO_2.out).2.1); (case side3 => repeat (first | exact (by repeat (first | (with_reducible exact HR645_0.out) | (with_reducible refine Kd.C_alloc ?_ _) | (with_reducible refine Kd.C_drewN ?_ _) | (with_reducible refine Kd.C_drew ?_) | exact HR645_0.out)) | (with_reducible refine Kd.C_alloc ?_ _) | (with_reducible refine Kd.C_drewN ?_ _) | (with_reducible refine Kd.C_drew ?_))); rintro e w' ⟨rfl, ⟨nd, rfl⟩⟩))
          go_roundg k1
          case measure => have := HK1.out; omega
          case rel => exact ⟨(wrap64 (x13_1 + 1)), rsz, H', ⟨by have := HK1.out; omega⟩, ⟨by (with_reducible repeat (first | apply Kd.V_alloc | apply Kd.V_drewN | apply Kd.V_drew)); exact HO_2.out⟩, ⟨by (with_reducible repeat (first | apply Kd.N_alloc | apply Kd.N_drewN | apply Kd.N_drew)); exact HO_11.out⟩, ⟨blkz⟩, ⟨bel⟩⟩
       ·
        replace c20 := Bool.eq_false_iff.mpr c20
        subst c20
        rw [if_neg (show ¬ (false = true) by decide)] at H
        have H' := Aside0.mk H
        clear H
        obtain ⟨Ao27, co27, eo27⟩ := Kd.N_slice HO_11.out
        subst eo27
        have p642 : 0 ≤ (x13_1 : Int) := of_decide_eq_true asz
        have q642 : x13_1 < (t638.length : Int) := of_decide_eq_true asz
        obtain ⟨ad642, A642_0, c642_0, A642_1, c642_1, e642, hx642_0, hx642_1, hl642_0, hi642_0, hl642_1, hi642_1⟩ := at_T87 (Kd.N_reads' HO_11.out).2.2 x13_1 p642 q642
        cases e642
        obtain ⟨ce642, hce642, hMe642, hcc642⟩ := Kd.N_get HO_11.out z87 x13_1 p642 (by first | exact q642 | exact of_decide_eq_true asz | (have e_ := (Kd.N_reads' HO_11.out).1; omega))
        obtain ⟨ua642_0, uc642_0, ua642_1, uc642_1, rfl, ul642_0, ge642_0, ul642_1, ge642_1⟩ := k87_openF hMe642
        have hv642_0 := hcc642 0 _ rfl
        rw [Nat.add_zero] at hv642_0
        replace hv642_0 := Option.some.inj (hv642_0.symm.trans hx642_0)
        injection hv642_0 with hva_ hvn_ hvc_
        rw [hva_] at ge642_0
        rw [hvc_] at ul642_0
        have HL642_0 := Aside0.mk (show Kd.V (Kd.int .i64) 3 _ w.heap.size _ _ ((rd_T87 t638 x13_1).f0) from Kd.V_mk ul642_0 ge642_0)
        clear hva_ hvn_ hvc_ ge642_0 ul642_0
        have hv642_1 := hcc642 1 _ rfl
        rw [add_field _ _ 1 (by omega)] at hv642_1
        replace hv642_1 := Option.some.inj (hv642_1.symm.trans hx642_1)
        injection hv642_1 with hva_ hvn_ hvc_
        rw [hva_] at ge642_1
        rw [hvc_] at ul642_1
        have HL642_1 := Aside0.mk (show Kd.V (Kd.int .i64) 3 _ w.heap.size _ _ ((rd_T87 t638 x13_1).f1) from Kd.V_mk ul642_1 ge642_1)
        clear hva_ hvn_ hvc_ ge642_1 ul642_1
        clear hcc642 hce642
        have HR642_0 := Aside0.mk hi642_0
        have HC642_0 := Aside0.mk hl642_0
        clear hi642_0 hl642_0
        have HR642_1 := Aside0.mk hi642_1
        have HC642_1 := Aside0.mk hl642_1
        clear hi642_1 hl642_1
        replace p642 := eq_true p642
        replace q642 := eq_true q642
        go_wp2_with (first | ((with_reducible refine gate_callee (f := 25) rfl ?_); refine goesL_ (some 42) rfl rfl Try.func25 (by kernel_rfl) rfl #[.slice A642_0 ((rd_T87 t638 x13_1).f0).length c642_0, .slice A2 l2.length c2] rfl mapz ?_; (with_reducible refine (dropperref06_Covers.calls k1 _ _ ((rd_T87 t638 x13_1).f0) _ _ l2 false _ ?side1 HC642_0.out ?side3 ?side4 A19.out).mono ?_); (case side1 => repeat (first | exact (by repeat (first | (with_reducible exact HR642_0.out) | (with_reducible refine Kd.C_alloc ?_ _) | (with_reducible refine Kd.C_drewN ?_ _) | (with_reducible refine Kd.C_drew ?_) | exact HR642_0.out)) | (with_reducible refine Kd.C_alloc ?_ _) | (with_reducible refine Kd.C_drewN ?_ _) | (with_reducible refine Kd.C_drew ?_))); (case side3 => repeat (first | exact (Kd.V_reads' HO_2.out).2.2 | (with_reducible refine Kd.C_alloc ?_ _) | (with_reducible refine Kd.C_drewN ?_ _) | (with_reducible refine Kd.C_drew ?_))); (case side4 => exact (Kd.V_reads' HO_2.out).2.1); rintro e w' ⟨rfl, ⟨nd, rfl⟩⟩; refine ⟨_, rfl, ?_⟩))
        go_roundg k1
        case measure => have := HK1.out; omega
        case rel => exact ⟨(wrap64 (x13_1 + 1)), rsz, H', ⟨by have := HK1.out; omega⟩, ⟨by (with_reducible repeat (first | apply Kd.V_alloc | apply Kd.V_drewN | apply Kd.V_drew)); exact HO_2.out⟩, ⟨by (with_reducible repeat (first | apply Kd.N_alloc | apply Kd.N_drewN | apply Kd.N_drew)); exact HO_11.out⟩, ⟨blkz⟩, ⟨bel⟩⟩
      ·
       rw [if_neg c18] at H
       exact absurd H (by simp)
     ·
      rw [if_neg c17] at H
      have c17b0 : decide (x13_1 < (t638.length : Int)) = false := decide_eq_false c17
      clear c17
      simp only [Option.some.injEq, Prod.mk.injEq] at H
      obtain ⟨rfl, rfl⟩ := H
      obtain ⟨Ao28, co28, eo28⟩ := Kd.N_slice HO_11.out
      subst eo28
      go_wp2
      go_ret2
      exact ⟨_, ezz, Kd.V_mono (Kd.R_V (base := w.heap.size) (Kd.R_nil _ _ _ _ _)) (fun k_ hk => by first | exact ⟨(.inr (hk.1)), hk.2⟩ | exact (.inr (hk))), bel⟩
  ·
   replace c8 := Bool.eq_false_iff.mpr c8
   subst c8
   rw [if_neg (show ¬ (false = true) by decide)] at H
   simp only [Option.some.injEq, Prod.mk.injEq] at H
   obtain ⟨rfl, rfl⟩ := H
   go_enter Try.func82, Try.ntmps82
   go_wp2_with (first | ((with_reducible refine gate_dst (N := 4) rfl ?_); refine box_event ?hg (N := 4) ?hd (cs := #[.int .i64 a0_0, .slice A0_1 l0_1.length c0_1]) (t := 24) ?hr ?_; (case hd => rfl); (case hg => rfl); (case hr => first | (go_simp; done) | (go_simp; rfl)); intro gb633 hg w29 hbox hb; have BK633 := Aside0.mk (hbox); have GW633 := bsz (w := w) hg; have GE633 := GW633; replace HO1 := Aside0.mk (Kd.V_below (Kd.V_elderB (by (with_reducible repeat (first | apply Kd.V_alloc | apply Kd.V_drewN | apply Kd.V_drew)); exact HO1.out) gb633 (Nat.le_of_eq hg.symm)) hb); replace HO2 := Aside0.mk (Kd.V_below (Kd.V_elderB (by (with_reducible repeat (first | apply Kd.V_alloc | apply Kd.V_drewN | apply Kd.V_drew)); exact HO2.out) gb633 (Nat.le_of_eq hg.symm)) hb); replace HB := Aside0.mk (below_step bel hb); clear hb hbox hg; obtain ⟨hcz30_0, hcz30_1⟩ := bc2 BK633.out) | ((with_reducible refine gate_dst (N := 17) rfl ?_); refine Kd.N_lit (Kd.slice 3 (Kd.int .i64)) _ 25 ?hg (N' := 17) ?hd (xs := ([l1, l2] : List (List Int))) (inner := [.slice A1 l1.length c1, .slice A2 l2.length c2]) (ok := (fun k_ => ((P1_ k_ ∨ P2_ k_) ∨ w.heap.size ≤ k_) ∧ k_ ≠ gb633)) (okp := (fun k_ => ((P1_ k_ ∨ P2_ k_) ∨ w.heap.size ≤ k_) ∧ k_ ≠ gb633)) ?hr ?hp (fun _ hk => hk) ((show ∀ k_, w29.heap.size ≤ k_ → (fun k_ => ((P1_ k_ ∨ P2_ k_) ∨ w.heap.size ≤ k_) ∧ k_ ≠ gb633) k_ from fun k_ hk => ⟨(.inr (Nat.le_trans (below_size bel) hk)), Kd.freshB (g := gb633) (o := .cells #[.int .i64 a0_0, .slice A0_1 l0_1.length c0_1] 24 (0, 0)) blkz k_ hk⟩) _ (Nat.le_refl _)) (Below.refl _ _) (Nat.le_refl _) (by simp) ?_; (case hd => rfl); (case hg => rfl); (case hr => first | (go_simp; done) | (go_simp; rfl)); (case hp => exact (Reps.one (show Kd.FK (Kd.slice 3 (Kd.int .i64)) _ _ l1 [.slice A1 l1.length c1] from (Kd.FK_slice_mk (Kd.V_reads' (Kd.V_mono (ok' := (fun k_ => ((P1_ k_ ∨ P2_ k_) ∨ w.heap.size ≤ k_) ∧ k_ ≠ gb633)) (HO1.out) (fun k_ hk => ⟨hk.1, hk.2⟩))).2.1 (Kd.V_F (Kd.V_mono (ok' := (fun k_ => ((P1_ k_ ∨ P2_ k_) ∨ w.heap.size ≤ k_) ∧ k_ ≠ gb633)) (HO1.out) (fun k_ hk => ⟨hk.1, hk.2⟩))))) (Reps.one (show Kd.FK (Kd.slice 3 (Kd.int .i64)) _ _ l2 [.slice A2 l2.length c2] from (Kd.FK_slice_mk (Kd.V_reads' (Kd.V_mono (ok' := (fun k_ => ((P1_ k_ ∨ P2_ k_) ∨ w.heap.size ≤ k_) ∧ k_ ≠ gb633)) (HO2.out) (fun k_ hk => ⟨hk.1, hk.2⟩))).2.1 (Kd.V_F (Kd.V_mono (ok' := (fun k_ => ((P1_ k_ ∨ P2_ k_) ∨ w.heap.size ≤ k_) ∧ k_ ≠ gb633)) (HO2.out) (fun k_ hk => ⟨hk.1, hk.2⟩))))) (Reps.none _ _)))); intro v635 w31 ho32 hb hg_ hnew_; clear hg_ hnew_; (first | rw [← Ny634.out] at ho32 | (simp only [Int.reduceToNat] at ho32; rw [← Ny634.out] at ho32)); have HO636 := Aside0.mk (Kd.N_lower ho32 (below_size bel)); replace HO1 := Aside0.mk (Kd.V_elder' (by (with_reducible repeat (first | apply Kd.V_alloc | apply Kd.V_drewN | apply Kd.V_drew)); exact HO1.out) (Kd.N_base ho32) hb); replace HO2 := Aside0.mk (Kd.V_elder' (by (with_reducible repeat (first | apply Kd.V_alloc | apply Kd.V_drewN | apply Kd.V_drew)); exact HO2.out) (Kd.N_base ho32) hb); replace BK633 := Aside0.mk (blk_below (g := gb633) blkz hb); replace HB := Aside0.mk (below_step bel hb); clear hb ho32; obtain ⟨Ao33, co33, eo33⟩ := Kd.N_slice HO636.out; subst eo33) | ((with_reducible refine gate_callee (f := 72) rfl ?_); refine goesL_ (some 18) rfl rfl Try.func72 (by kernel_rfl) rfl #[.agg #[.int .i64 a0_0, .slice A0_1 l0_1.length c0_1], .slice Ao33 y634.length co33] rfl mapz ?_; (with_reducible refine (dropperref06_asked.calls k a0_0 _ _ l0_1 _ _ y634 t637 _ (cbz HR0_1) HC0_1.out ?side3 ?side4 A5.out).mono ?_); (case side3 => repeat (first | exact (Kd.N_reads' HO636.out).2.2 | (with_reducible refine Kd.C_alloc ?_ _) | (with_reducible refine Kd.C_drewN ?_ _) | (with_reducible refine Kd.C_drew ?_))); (case side4 => exact (Kd.N_reads' HO636.out).2.1); rintro e w34 ⟨rfl, hb⟩; refine ⟨_, rfl, ?_⟩; replace HO1 := Aside0.mk (Kd.V_below (by (with_reducible repeat (first | apply Kd.V_alloc | apply Kd.V_drewN | apply Kd.V_drew)); exact HO1.out) hb); replace HO2 := Aside0.mk (Kd.V_below (by (with_reducible repeat (first | apply Kd.V_alloc | apply Kd.V_drewN | apply Kd.V_drew)); exact HO2.out) hb); replace HO636 := Aside0.mk (Kd.N_below (by (with_reducible repeat (first | apply Kd.N_alloc | apply Kd.N_drewN | apply Kd.N_drew)); exact HO636.out) hb); replace BK633 := Aside0.mk (blk_below (g := gb633) blkz hb); replace HB := Aside0.mk (below_step bel hb); clear hb; obtain ⟨hcz35_0, hcz35_1⟩ := bc2 BK633.out) | ((with_reducible refine gate_callee (f := 74) rfl ?_); refine goesL_ (some 25) rfl rfl Try.func74 (by kernel_rfl) rfl #[.agg #[.int .i64 a0_0, .slice A0_1 l0_1.length c0_1], .slice A1 l1.length c1] rfl mapz ?_; (with_reducible refine (dropperref06_found.calls k a0_0 _ _ l0_1 (fun k_ => ((((P1_ k_ ∨ P2_ k_) ∨ w.heap.size ≤ k_) ∧ k_ ≠ gb633) ∧ some k_ ≠ (.slice Ao33 y634.length co33 : Value).ownBlock)) _ _ l1 t638 false _ (cbz HR0_1) HC0_1.out HO1.out A7.out).mono ?_); rintro e w36 ⟨v639, rfl, ho0, hb⟩; refine ⟨_, rfl, ?_⟩; have HO640 := Aside0.mk (Kd.N_lower (Kd.N_mono (ok' := fun k_ => ((P1_ k_ ∨ P2_ k_) ∨ w.heap.size ≤ k_) ∧ some k_ ≠ (.slice Ao33 y634.length co33 : Value).ownBlock ∧ k_ ≠ gb633) ho0 (fun k_ hk_ => ⟨Or.elim hk_ (fun hs_ => hs_.1.1) (fun hn_ => (.inr (Nat.le_trans (below_size bel) hn_))), Or.elim hk_ (fun hs_ => hs_.2) (fun hn_ => (Kd.fresh' (Kd.N_lt (by (with_reducible repeat (first | apply Kd.N_alloc | apply Kd.N_drewN | apply Kd.N_drew)); exact HO636.out)) k_ hn_)), Or.elim hk_ (fun hs_ => hs_.1.2) (fun hn_ => (Kd.freshB (g := gb633) (o := .cells #[.int .i64 a0_0, .slice A0_1 l0_1.length c0_1] 24 (0, 0)) blkz k_ hn_))⟩)) (below_size bel)); replace HO1 := Aside0.mk (Kd.V_elder' (by (with_reducible repeat (first | apply Kd.V_alloc | apply Kd.V_drewN | apply Kd.V_drew)); exact HO1.out) (Kd.N_base ho0) hb); replace HO2 := Aside0.mk (Kd.V_elder' (by (with_reducible repeat (first | apply Kd.V_alloc | apply Kd.V_drewN | apply Kd.V_drew)); exact HO2.out) (Kd.N_base ho0) hb); replace HO636 := Aside0.mk (Kd.N_elder' (by (with_reducible repeat (first | apply Kd.N_alloc | apply Kd.N_drewN | apply Kd.N_drew)); exact HO636.out) (Kd.N_base ho0) hb); replace BK633 := Aside0.mk (blk_below (g := gb633) blkz hb); replace HB := Aside0.mk (below_step bel hb); (try clear hb); (try clear hb2); (try clear hk); (try clear hi); (try clear ho0)))
   go_ret2
   exact ⟨_, ezz, Kd.V_mono (Kd.R_V (base := w.heap.size) (Kd.R_nil _ _ _ _ _)) (fun k_ hk => by first | exact ⟨(.inr (hk.1)), hk.2⟩ | exact (.inr (hk))), bel⟩
 ·
  rw [if_neg c6] at H
  have c6b0 : (t637 == 0) = false := beq_eq_false_iff_ne.mpr c6
  have c6b1 : (t637 != 0) = true := bne_iff_ne.mpr c6
  simp only [Option.some.injEq, Prod.mk.injEq] at H
  obtain ⟨rfl, rfl⟩ := H
  go_enter Try.func82, Try.ntmps82
  go_wp2_with (first | ((with_reducible refine gate_dst (N := 4) rfl ?_); refine box_event ?hg (N := 4) ?hd (cs := #[.int .i64 a0_0, .slice A0_1 l0_1.length c0_1]) (t := 24) ?hr ?_; (case hd => rfl); (case hg => rfl); (case hr => first | (go_simp; done) | (go_simp; rfl)); intro gb633 hg w37 hbox hb; have BK633 := Aside0.mk (hbox); have GW633 := bsz (w := w) hg; have GE633 := GW633; replace HO1 := Aside0.mk (Kd.V_below (Kd.V_elderB (by (with_reducible repeat (first | apply Kd.V_alloc | apply Kd.V_drewN | apply Kd.V_drew)); exact HO1.out) gb633 (Nat.le_of_eq hg.symm)) hb); replace HO2 := Aside0.mk (Kd.V_below (Kd.V_elderB (by (with_reducible repeat (first | apply Kd.V_alloc | apply Kd.V_drewN | apply Kd.V_drew)); exact HO2.out) gb633 (Nat.le_of_eq hg.symm)) hb); replace HB := Aside0.mk (below_step bel hb); clear hb hbox hg; obtain ⟨hcz38_0, hcz38_1⟩ := bc2 BK633.out) | ((with_reducible refine gate_dst (N := 17) rfl ?_); refine Kd.N_lit (Kd.slice 3 (Kd.int .i64)) _ 25 ?hg (N' := 17) ?hd (xs := ([l1, l2] : List (List Int))) (inner := [.slice A1 l1.length c1, .slice A2 l2.length c2]) (ok := (fun k_ => ((P1_ k_ ∨ P2_ k_) ∨ w.heap.size ≤ k_) ∧ k_ ≠ gb633)) (okp := (fun k_ => ((P1_ k_ ∨ P2_ k_) ∨ w.heap.size ≤ k_) ∧ k_ ≠ gb633)) ?hr ?hp (fun _ hk => hk) ((show ∀ k_, w37.heap.size ≤ k_ → (fun k_ => ((P1_ k_ ∨ P2_ k_) ∨ w.heap.size ≤ k_) ∧ k_ ≠ gb633) k_ from fun k_ hk => ⟨(.inr (Nat.le_trans (below_size bel) hk)), Kd.freshB (g := gb633) (o := .cells #[.int .i64 a0_0, .slice A0_1 l0_1.length c0_1] 24 (0, 0)) blkz k_ hk⟩) _ (Nat.le_refl _)) (Below.refl _ _) (Nat.le_refl _) (by simp) ?_; (case hd => rfl); (case hg => rfl); (case hr => first | (go_simp; done) | (go_simp; rfl)); (case hp => exact (Reps.one (show Kd.FK (Kd.slice 3 (Kd.int .i64)) _ _ l1 [.slice A1 l1.length c1] from (Kd.FK_slice_mk (Kd.V_reads' (Kd.V_mono (ok' := (fun k_ => ((P1_ k_ ∨ P2_ k_) ∨ w.heap.size ≤ k_) ∧ k_ ≠ gb633)) (HO1.out) (fun k_ hk => ⟨hk.1, hk.2⟩))).2.1 (Kd.V_F (Kd.V_mono (ok' := (fun k_ => ((P1_ k_ ∨ P2_ k_) ∨ w.heap.size ≤ k_) ∧ k_ ≠ gb633)) (HO1.out) (fun k_ hk => ⟨hk.1, hk.2⟩))))) (Reps.one (show Kd.FK (Kd.slice 3 (Kd.int .i64)) _ _ l2 [.slice A2 l2.length c2] from (Kd.FK_slice_mk (Kd.V_reads' (Kd.V_mono (ok' := (fun k_ => ((P1_ k_ ∨ P2_ k_) ∨ w.heap.size ≤ k_) ∧ k_ ≠ gb633)) (HO2.out) (fun k_ hk => ⟨hk.1, hk.2⟩))).2.1 (Kd.V_F (Kd.V_mono (ok' := (fun k_ => ((P1_ k_ ∨ P2_ k_) ∨ w.heap.size ≤ k_) ∧ k_ ≠ gb633)) (HO2.out) (fun k_ hk => ⟨hk.1, hk.2⟩))))) (Reps.none _ _)))); intro v635 w39 ho40 hb hg_ hnew_; clear hg_ hnew_; (first | rw [← Ny634.out] at ho40 | (simp only [Int.reduceToNat] at ho40; rw [← Ny634.out] at ho40)); have HO636 := Aside0.mk (Kd.N_lower ho40 (below_size bel)); replace HO1 := Aside0.mk (Kd.V_elder' (by (with_reducible repeat (first | apply Kd.V_alloc | apply Kd.V_drewN | apply Kd.V_drew)); exact HO1.out) (Kd.N_base ho40) hb); replace HO2 := Aside0.mk (Kd.V_elder' (by (with_reducible repeat (first | apply Kd.V_alloc | apply Kd.V_drewN | apply Kd.V_drew)); exact HO2.out) (Kd.N_base ho40) hb); replace BK633 := Aside0.mk (blk_below (g := gb633) blkz hb); replace HB := Aside0.mk (below_step bel hb); clear hb ho40; obtain ⟨Ao41, co41, eo41⟩ := Kd.N_slice HO636.out; subst eo41) | ((with_reducible refine gate_callee (f := 72) rfl ?_); refine goesL_ (some 18) rfl rfl Try.func72 (by kernel_rfl) rfl #[.agg #[.int .i64 a0_0, .slice A0_1 l0_1.length c0_1], .slice Ao41 y634.length co41] rfl mapz ?_; (with_reducible refine (dropperref06_asked.calls k a0_0 _ _ l0_1 _ _ y634 t637 _ (cbz HR0_1) HC0_1.out ?side3 ?side4 A5.out).mono ?_); (case side3 => repeat (first | exact (Kd.N_reads' HO636.out).2.2 | (with_reducible refine Kd.C_alloc ?_ _) | (with_reducible refine Kd.C_drewN ?_ _) | (with_reducible refine Kd.C_drew ?_))); (case side4 => exact (Kd.N_reads' HO636.out).2.1); rintro e w42 ⟨rfl, hb⟩; refine ⟨_, rfl, ?_⟩; replace HO1 := Aside0.mk (Kd.V_below (by (with_reducible repeat (first | apply Kd.V_alloc | apply Kd.V_drewN | apply Kd.V_drew)); exact HO1.out) hb); replace HO2 := Aside0.mk (Kd.V_below (by (with_reducible repeat (first | apply Kd.V_alloc | apply Kd.V_drewN | apply Kd.V_drew)); exact HO2.out) hb); replace HO636 := Aside0.mk (Kd.N_below (by (with_reducible repeat (first | apply Kd.N_alloc | apply Kd.N_drewN | apply Kd.N_drew)); exact HO636.out) hb); replace BK633 := Aside0.mk (blk_below (g := gb633) blkz hb); replace HB := Aside0.mk (below_step bel hb); clear hb))
  go_ret2
  exact ⟨_, ezz, Kd.V_mono (Kd.R_V (base := w.heap.size) (Kd.R_nil _ _ _ _ _)) (fun k_ hk => by first | exact ⟨(.inr (hk.1)), hk.2⟩ | exact (.inr (hk))), bel⟩

/-! ### dropperref06_Way: function 47 -/
def dropperref06_Way.f (k : Nat) (a0_0 : Int) (l0_1 : List (S64)) (l1 : List Int) (l2 : List Int) : Option (List Int × Int) := (dropperref06_way.f k a0_0 l0_1 l1 l2 false).bind fun bt649 => (some (bt649.1, bt649.2))
set_option maxHeartbeats 8000000 in
set_option maxRecDepth 100000 in
theorem dropperref06_Way.calls (k : Nat) (a0_0 : Int) (A0_1 : Option Addr) (c0_1 : Nat) (l0_1 : List (S64)) (P1_ : Nat → Prop) (A1 : Option Addr) (c1 : Nat) (l1 : List Int) (P2_ : Nat → Prop) (A2 : Option Addr) (c2 : Nat) (l2 : List Int) (r1 : List Int) (r2 : Int) (w : World) (hr0_1 : Kd.C k64 w A0_1 l0_1.length l0_1) (hc0_1 : l0_1.length ≤ c0_1) (hs1 : Kd.V (Kd.int .i64) 3 w w.heap.size (fun k_ => P1_ k_) (.slice A1 l1.length c1) l1) (hs2 : Kd.V (Kd.int .i64) 3 w w.heap.size (fun k_ => P2_ k_) (.slice A2 l2.length c2) l2) (h : dropperref06_Way.f k a0_0 l0_1 l1 l2 = some (r1, r2)) :
  Calls Try.prog 47 #[.agg #[.int .i64 a0_0, .slice A0_1 l0_1.length c0_1], .slice A1 l1.length c1, .slice A2 l2.length c2] w fun e w' => ∃ v0_ : Value, e = .returned (.tuple #[v0_, .int .i64 r2]) ∧ Kd.V (Kd.int .i64) 3 w' w.heap.size (fun k_ => ((P1_ k_ ∨ P2_ k_) ∨ w.heap.size ≤ k_)) v0_ r1 ∧ Below w.heap.size w w' := by
 have hu24 := Try.underlying24
 have HR0_1 := Aside0.mk hr0_1
 have HC0_1 := Aside0.mk hc0_1
 clear hr0_1 hc0_1
 have HO1 := Aside0.mk (show Kd.V (Kd.int .i64) 3 w w.heap.size (fun k_ => ((P1_ k_ ∨ P2_ k_) ∨ w.heap.size ≤ k_)) (.slice A1 l1.length c1) l1 from Kd.V_mono hs1 (fun k_ hk => .inl (.inl hk)))
 have HO2 := Aside0.mk (show Kd.V (Kd.int .i64) 3 w w.heap.size (fun k_ => ((P1_ k_ ∨ P2_ k_) ∨ w.heap.size ≤ k_)) (.slice A2 l2.length c2) l2 from Kd.V_mono hs2 (fun k_ hk => .inl (.inr hk)))
 have HB := Aside0.mk (Below.refl w.heap.size w)
 have H : ((dropperref06_way.f k a0_0 l0_1 l1 l2 false).bind fun bt649 => (some (bt649.1, bt649.2))) = some (r1, r2) := h
 clear h
 replace H := Option.bind_eq_some_iff.mp H
 obtain ⟨⟨t649, t652⟩, A40, H⟩ := H
 try dsimp only at H
 have A4 := Aside0.mk A40
 clear A40
 simp only [Option.some.injEq, Prod.mk.injEq] at H
 obtain ⟨rfl, rfl⟩ := H
 go_enter Try.func47, Try.ntmps47
 go_wp2_with (first | ((with_reducible refine gate_dst (N := 3) rfl ?_); refine box_event ?hg (N := 3) ?hd (cs := #[.int .i64 a0_0, .slice A0_1 l0_1.length c0_1]) (t := 24) ?hr ?_; (case hd => rfl); (case hg => rfl); (case hr => first | (go_simp; done) | (go_simp; rfl)); intro gb648 hg w5 hbox hb; have BK648 := Aside0.mk (hbox); have GW648 := bsz (w := w) hg; have GE648 := GW648; replace HO1 := Aside0.mk (Kd.V_below (Kd.V_elderB (by (with_reducible repeat (first | apply Kd.V_alloc | apply Kd.V_drewN | apply Kd.V_drew)); exact HO1.out) gb648 (Nat.le_of_eq hg.symm)) hb); replace HO2 := Aside0.mk (Kd.V_below (Kd.V_elderB (by (with_reducible repeat (first | apply Kd.V_alloc | apply Kd.V_drewN | apply Kd.V_drew)); exact HO2.out) gb648 (Nat.le_of_eq hg.symm)) hb); replace HB := Aside0.mk (below_step bel hb); clear hb hbox hg; obtain ⟨hcz6_0, hcz6_1⟩ := bc2 BK648.out) | ((with_reducible refine gate_callee (f := 82) rfl ?_); refine goesL_ (some 11) rfl rfl Try.func82 (by kernel_rfl) rfl #[.agg #[.int .i64 a0_0, .slice A0_1 l0_1.length c0_1], .slice A1 l1.length c1, .slice A2 l2.length c2, .bool false] rfl mapz ?_; (with_reducible refine (dropperref06_way.calls k a0_0 _ _ l0_1 (fun k_ => (((P1_ k_ ∨ P2_ k_) ∨ w.heap.size ≤ k_) ∧ k_ ≠ gb648)) _ _ l1 (fun k_ => (((P1_ k_ ∨ P2_ k_) ∨ w.heap.size ≤ k_) ∧ k_ ≠ gb648)) _ _ l2 false t649 t652 _ (cbz HR0_1) HC0_1.out HO1.out HO2.out A4.out).mono ?_); rintro e w7 ⟨v650, rfl, ho0, hb⟩; refine ⟨_, rfl, ?_⟩; have HO651 := Aside0.mk (Kd.V_lower (Kd.V_mono (ok' := fun k_ => ((P1_ k_ ∨ P2_ k_) ∨ w.heap.size ≤ k_) ∧ k_ ≠ gb648) ho0 (fun k_ hk_ => ⟨Or.elim hk_ (fun hs_ => Or.elim hs_ (fun hs_ => hs_.1) (fun hs_ => hs_.1)) (fun hn_ => (.inr (Nat.le_trans (below_size bel) hn_))), Or.elim hk_ (fun hs_ => Or.elim hs_ (fun hs_ => hs_.2) (fun hs_ => hs_.2)) (fun hn_ => (Kd.freshB (g := gb648) (o := .cells #[.int .i64 a0_0, .slice A0_1 l0_1.length c0_1] 24 (0, 0)) blkz k_ hn_))⟩)) (below_size bel)); replace HO1 := Aside0.mk (Kd.V_below (by (with_reducible repeat (first | apply Kd.V_alloc | apply Kd.V_drewN | apply Kd.V_drew)); exact HO1.out) hb); replace HO2 := Aside0.mk (Kd.V_below (by (with_reducible repeat (first | apply Kd.V_alloc | apply Kd.V_drewN | apply Kd.V_drew)); exact HO2.out) hb); replace BK648 := Aside0.mk (blk_below (g := gb648) blkz hb); replace HB := Aside0.mk (below_step bel hb); (try clear hb); (try clear hb2); (try clear hk); (try clear hi); (try clear ho0)))
 go_ret2
 exact ⟨_, ezz, by (with_reducible repeat (first | apply Kd.V_alloc | apply Kd.V_drewN | apply Kd.V_drew)); exact Kd.V_mono HO651.out (fun _ hk => hk.1), bel⟩

/-! ### dropperref06_Cover: function 48 -/
def dropperref06_Cover.f (k : Nat) (a0_0 : Int) (l0_1 : List (S64)) (l1 : List Int) (l2 : List Int) : Option (List Int × Int) := (dropperref06_way.f k a0_0 l0_1 l1 l2 true).bind fun bt654 => (some (bt654.1, bt654.2))
set_option maxHeartbeats 8000000 in
set_option maxRecDepth 100000 in
theorem dropperref06_Cover.calls (k : Nat) (a0_0 : Int) (A0_1 : Option Addr) (c0_1 : Nat) (l0_1 : List (S64)) (P1_ : Nat → Prop) (A1 : Option Addr) (c1 : Nat) (l1 : List Int) (P2_ : Nat → Prop) (A2 : Option Addr) (c2 : Nat) (l2 : List Int) (r1 : List Int) (r2 : Int) (w : World) (hr0_1 : Kd.C k64 w A0_1 l0_1.length l0_1) (hc0_1 : l0_1.length ≤ c0_1) (hs1 : Kd.V (Kd.int .i64) 3 w w.heap.size (fun k_ => P1_ k_) (.slice A1 l1.length c1) l1) (hs2 : Kd.V (Kd.int .i64) 3 w w.heap.size (fun k_ => P2_ k_) (.slice A2 l2.length c2) l2) (h : dropperref06_Cover.f k a0_0 l0_1 l1 l2 = some (r1, r2)) :
  Calls Try.prog 48 #[.agg #[.int .i64 a0_0, .slice A0_1 l0_1.length c0_1], .slice A1 l1.length c1, .slice A2 l2.length c2] w fun e w' => ∃ v0_ : Value, e = .returned (.tuple #[v0_, .int .i64 r2]) ∧ Kd.V (Kd.int .i64) 3 w' w.heap.size (fun k_ => ((P1_ k_ ∨ P2_ k_) ∨ w.heap.size ≤ k_)) v0_ r1 ∧ Below w.heap.size w w' := by
 have hu24 := Try.underlying24
 have HR0_1 := Aside0.mk hr0_1
 have HC0_1 := Aside0.mk hc0_1
 clear hr0_1 hc0_1
 have HO1 := Aside0.mk (show Kd.V (Kd.int .i64) 3 w w.heap.size (fun k_ => ((P1_ k_ ∨ P2_ k_) ∨ w.heap.size ≤ k_)) (.slice A1 l1.length c1) l1 from Kd.V_mono hs1 (fun k_ hk => .inl (.inl hk)))
 have HO2 := Aside0.mk (show Kd.V (Kd.int .i64) 3 w w.heap.size (fun k_ => ((P1_ k_ ∨ P2_ k_) ∨ w.heap.size ≤ k_)) (.slice A2 l2.length c2) l2 from Kd.V_mono hs2 (fun k_ hk => .inl (.inr hk)))
 have HB := Aside0.mk (Below.refl w.heap.size w)
 have H : ((dropperref06_way.f k a0_0 l0_1 l1 l2 true).bind fun bt654 => (some (bt654.1, bt654.2))) = some (r1, r2) := h
 clear h
 replace H := Option.bind_eq_some_iff.mp H
 obtain ⟨⟨t654, t657⟩, A40, H⟩ := H
 try dsimp only at H
 have A4 := Aside0.mk A40
 clear A40
 simp only [Option.some.injEq, Prod.mk.injEq] at H
 obtain ⟨rfl, rfl⟩ := H
 go_enter Try.func48, Try.ntmps48
 go_wp2_with (first | ((with_reducible refine gate_dst (N := 3) rfl ?_); refine box_event ?hg (N := 3) ?hd (cs := #[.int .i64 a0_0, .slice A0_1 l0_1.length c0_1]) (t := 24) ?hr ?_; (case hd => rfl); (case hg => rfl); (case hr => first | (go_simp; done) | (go_simp; rfl)); intro gb653 hg w5 hbox hb; have BK653 := Aside0.mk (hbox); have GW653 := bsz (w := w) hg; have GE653 := GW653; replace HO1 := Aside0.mk (Kd.V_below (Kd.V_elderB (by (with_reducible repeat (first | apply Kd.V_alloc | apply Kd.V_drewN | apply Kd.V_drew)); exact HO1.out) gb653 (Nat.le_of_eq hg.symm)) hb); replace HO2 := Aside0.mk (Kd.V_below (Kd.V_elderB (by (with_reducible repeat (first | apply Kd.V_alloc | apply Kd.V_drewN | apply Kd.V_drew)); exact HO2.out) gb653 (Nat.le_of_eq hg.symm)) hb); replace HB := Aside0.mk (below_step bel hb); clear hb hbox hg; obtain ⟨hcz6_0, hcz6_1⟩ := bc2 BK653.out) | ((with_reducible refine gate_callee (f := 82) rfl ?_); refine goesL_ (some 11) rfl rfl Try.func82 (by kernel_rfl) rfl #[.agg #[.int .i64 a0_0, .slice A0_1 l0_1.length c0_1], .slice A1 l1.length c1, .slice A2 l2.length c2, .bool true] rfl mapz ?_; (with_reducible refine (dropperref06_way.calls k a0_0 _ _ l0_1 (fun k_ => (((P1_ k_ ∨ P2_ k_) ∨ w.heap.size ≤ k_) ∧ k_ ≠ gb653)) _ _ l1 (fun k_ => (((P1_ k_ ∨ P2_ k_) ∨ w.heap.size ≤ k_) ∧ k_ ≠ gb653)) _ _ l2 true t654 t657 _ (cbz HR0_1) HC0_1.out HO1.out HO2.out A4.out).mono ?_); rintro e w7 ⟨v655, rfl, ho0, hb⟩; refine ⟨_, rfl, ?_⟩; have HO656 := Aside0.mk (Kd.V_lower (Kd.V_mono (ok' := fun k_ => ((P1_ k_ ∨ P2_ k_) ∨ w.heap.size ≤ k_) ∧ k_ ≠ gb653) ho0 (fun k_ hk_ => ⟨Or.elim hk_ (fun hs_ => Or.elim hs_ (fun hs_ => hs_.1) (fun hs_ => hs_.1)) (fun hn_ => (.inr (Nat.le_trans (below_size bel) hn_))), Or.elim hk_ (fun hs_ => Or.elim hs_ (fun hs_ => hs_.2) (fun hs_ => hs_.2)) (fun hn_ => (Kd.freshB (g := gb653) (o := .cells #[.int .i64 a0_0, .slice A0_1 l0_1.length c0_1] 24 (0, 0)) blkz k_ hn_))⟩)) (below_size bel)); replace HO1 := Aside0.mk (Kd.V_below (by (with_reducible repeat (first | apply Kd.V_alloc | apply Kd.V_drewN | apply Kd.V_drew)); exact HO1.out) hb); replace HO2 := Aside0.mk (Kd.V_below (by (with_reducible repeat (first | apply Kd.V_alloc | apply Kd.V_drewN | apply Kd.V_drew)); exact HO2.out) hb); replace BK653 := Aside0.mk (blk_below (g := gb653) blkz hb); replace HB := Aside0.mk (below_step bel hb); (try clear hb); (try clear hb2); (try clear hk); (try clear hi); (try clear ho0)))
 go_ret2
 exact ⟨_, ezz, by (with_reducible repeat (first | apply Kd.V_alloc | apply Kd.V_drewN | apply Kd.V_drew)); exact Kd.V_mono HO656.out (fun _ hk => hk.1), bel⟩

/-! ### dropperlaw06_KeyWays: function 10 -/
def dropperlaw06_KeyWays.f (k : Nat) (a0_0 : Int) (l0_1 : List (S64)) (l1_0 : List Int) (l1_1 : List Int) : Option (Bool) := (dropperlaw06_Large.f k a0_0 l0_1 (([l1_0, l1_1] : List (List Int)))).bind fun t663 => (if t663 = true then ((dropperlaw06_Awake.f k).bind fun t664 => (some t664)) else ((key_Way.f a0_0 l0_1 l1_0 l1_1).bind fun bt665 => ((dropperref06_Way.f k a0_0 l0_1 l1_0 l1_1).bind fun bt669 => ((key_Cover.f a0_0 l0_1 l1_0 l1_1).bind fun bt673 => ((dropperref06_Cover.f k a0_0 l0_1 l1_0 l1_1).bind fun bt677 => (if bt665.2 = bt669.2 then ((dropperlaw06_SameInts.f k bt665.1 bt669.1).bind fun t681 => (if t681 = true then (if bt673.2 = bt677.2 then ((dropperlaw06_SameInts.f k bt673.1 bt677.1).bind fun t682 => (if t682 = true then ((dropperlaw06_Awake.f k).bind fun t683 => (some t683)) else (none))) else (none)) else (none))) else (none)))))))
set_option maxHeartbeats 8000000 in
set_option maxRecDepth 100000 in
theorem dropperlaw06_KeyWays.calls (k : Nat) (a0_0 : Int) (A0_1 : Option Addr) (c0_1 : Nat) (l0_1 : List (S64)) (P1_0_ : Nat → Prop) (A1_0 : Option Addr) (c1_0 : Nat) (l1_0 : List Int) (P1_1_ : Nat → Prop) (A1_1 : Option Addr) (c1_1 : Nat) (l1_1 : List Int) (r : Bool) (w : World) (hr0_1 : Kd.C k64 w A0_1 l0_1.length l0_1) (hc0_1 : l0_1.length ≤ c0_1) (hs1_0 : Kd.V (Kd.int .i64) 3 w w.heap.size (fun k_ => P1_0_ k_) (.slice A1_0 l1_0.length c1_0) l1_0) (hs1_1 : Kd.V (Kd.int .i64) 3 w w.heap.size (fun k_ => P1_1_ k_) (.slice A1_1 l1_1.length c1_1) l1_1) (h : dropperlaw06_KeyWays.f k a0_0 l0_1 l1_0 l1_1 = some r) :
  Calls Try.prog 10 #[.agg #[.int .i64 a0_0, .slice A0_1 l0_1.length c0_1], .agg #[.slice A1_0 l1_0.length c1_0, .slice A1_1 l1_1.length c1_1]] w fun e w' => e = .returned (.bool r) ∧ Below w.heap.size w w' := by
 have hu24 := Try.underlying24
 have hu47 := Try.underlying47
 have HR0_1 := Aside0.mk hr0_1
 have HC0_1 := Aside0.mk hc0_1
 clear hr0_1 hc0_1
 have HO1_0 := Aside0.mk (show Kd.V (Kd.int .i64) 3 w w.heap.size (fun k_ => ((P1_0_ k_ ∨ P1_1_ k_) ∨ w.heap.size ≤ k_)) (.slice A1_0 l1_0.length c1_0) l1_0 from Kd.V_mono hs1_0 (fun k_ hk => .inl (.inl hk)))
 have HO1_1 := Aside0.mk (show Kd.V (Kd.int .i64) 3 w w.heap.size (fun k_ => ((P1_0_ k_ ∨ P1_1_ k_) ∨ w.heap.size ≤ k_)) (.slice A1_1 l1_1.length c1_1) l1_1 from Kd.V_mono hs1_1 (fun k_ hk => .inl (.inr hk)))
 have HB := Aside0.mk (Below.refl w.heap.size w)
 have H : ((dropperlaw06_Large.f k a0_0 l0_1 (([l1_0, l1_1] : List (List Int)))).bind fun t663 => (if t663 = true then ((dropperlaw06_Awake.f k).bind fun t664 => (some t664)) else ((key_Way.f a0_0 l0_1 l1_0 l1_1).bind fun bt665 => ((dropperref06_Way.f k a0_0 l0_1 l1_0 l1_1).bind fun bt669 => ((key_Cover.f a0_0 l0_1 l1_0 l1_1).bind fun bt673 => ((dropperref06_Cover.f k a0_0 l0_1 l1_0 l1_1).bind fun bt677 => (if bt665.2 = bt669.2 then ((dropperlaw06_SameInts.f k bt665.1 bt669.1).bind fun t681 => (if t681 = true then (if bt673.2 = bt677.2 then ((dropperlaw06_SameInts.f k bt673.1 bt677.1).bind fun t682 => (if t682 = true then ((dropperlaw06_Awake.f k).bind fun t683 => (some t683)) else (none))) else (none)) else (none))) else (none)))))))) = some r := h
 clear h
 obtain ⟨y660, hy660⟩ : ∃ y_ : List (List Int), y_ = (([l1_0, l1_1] : List (List Int))) := ⟨_, rfl⟩
 replace H : ((dropperlaw06_Large.f k a0_0 l0_1 y660).bind fun t663 => (if t663 = true then ((dropperlaw06_Awake.f k).bind fun t664 => (some t664)) else ((key_Way.f a0_0 l0_1 l1_0 l1_1).bind fun bt665 => ((dropperref06_Way.f k a0_0 l0_1 l1_0 l1_1).bind fun bt669 => ((key_Cover.f a0_0 l0_1 l1_0 l1_1).bind fun bt673 => ((dropperref06_Cover.f k a0_0 l0_1 l1_0 l1_1).bind fun bt677 => (if bt665.2 = bt669.2 then ((dropperlaw06_SameInts.f k bt665.1 bt669.1).bind fun t681 => (if t681 = true then (if bt673.2 = bt677.2 then ((dropperlaw06_SameInts.f k bt673.1 bt677.1).bind fun t682 => (if t682 = true then ((dropperlaw06_Awake.f k).bind fun t683 => (some t683)) else (none))) else (none)) else (none))) else (none)))))))) = some r := by first | (rw [hy660]; with_reducible exact H) | (have H2_ := (Option.bind_some _ _).symm.trans H; rw [hy660]; with_reducible exact H2_) | (have H2_ := (Option.bind_some _ _).symm.trans H; with_reducible exact H2_) | with_reducible exact H | (rw [hy660]; exact H) | exact H
 have Ny660 := Aside0.mk hy660
 clear hy660
 replace H := Option.bind_eq_some_iff.mp H
 obtain ⟨t663, A30, H⟩ := H
 try dsimp only at H
 have A3 := Aside0.mk A30
 clear A30
 by_cases c4 : t663 = true
 ·
  subst c4
  rw [if_pos rfl] at H
  replace H := Option.bind_eq_some_iff.mp H
  obtain ⟨t664, A50, H⟩ := H
  try dsimp only at H
  have A5 := Aside0.mk A50
  clear A50
  obtain rfl := Option.some.inj H
  go_enter Try.func10, Try.ntmps10
  go_wp2_with (first | ((with_reducible refine gate_dst (N := 2) rfl ?_); refine box_event ?hg (N := 2) ?hd (cs := #[.int .i64 a0_0, .slice A0_1 l0_1.length c0_1]) (t := 24) ?hr ?_; (case hd => rfl); (case hg => rfl); (case hr => first | (go_simp; done) | (go_simp; rfl)); intro gb658 hg w6 hbox hb; have BK658 := Aside0.mk (hbox); have GW658 := bsz (w := w) hg; have GE658 := GW658; replace HO1_0 := Aside0.mk (Kd.V_below (Kd.V_elderB (by (with_reducible repeat (first | apply Kd.V_alloc | apply Kd.V_drewN | apply Kd.V_drew)); exact HO1_0.out) gb658 (Nat.le_of_eq hg.symm)) hb); replace HO1_1 := Aside0.mk (Kd.V_below (Kd.V_elderB (by (with_reducible repeat (first | apply Kd.V_alloc | apply Kd.V_drewN | apply Kd.V_drew)); exact HO1_1.out) gb658 (Nat.le_of_eq hg.symm)) hb); replace HB := Aside0.mk (below_step bel hb); clear hb hbox hg) | ((with_reducible refine gate_dst (N := 3) rfl ?_); refine box_event ?hg (N := 3) ?hd (cs := #[.slice A1_0 l1_0.length c1_0, .slice A1_1 l1_1.length c1_1]) (t := 47) ?hr ?_; (case hd => rfl); (case hg => rfl); (case hr => first | (go_simp; done) | (go_simp; rfl)); intro gb659 hg w7 hbox hb; have BK659 := Aside0.mk (hbox); have GW659 := bsz (w := w) hg; have GE659 := GW659; have NB658_659 := neL (g := gb658) hg; have NB659_658 := neR (g := gb658) hg; replace HO1_0 := Aside0.mk (Kd.V_below (Kd.V_elderB (by (with_reducible repeat (first | apply Kd.V_alloc | apply Kd.V_drewN | apply Kd.V_drew)); exact HO1_0.out) gb659 (Nat.le_of_eq hg.symm)) hb); replace HO1_1 := Aside0.mk (Kd.V_below (Kd.V_elderB (by (with_reducible repeat (first | apply Kd.V_alloc | apply Kd.V_drewN | apply Kd.V_drew)); exact HO1_1.out) gb659 (Nat.le_of_eq hg.symm)) hb); replace BK658 := Aside0.mk (blk_below (g := gb658) blkz hb); replace HB := Aside0.mk (below_step bel hb); clear hb hbox hg; have hnb8 := NB658_659.out; have hnc8 := NB659_658.out; obtain ⟨hcz9_0, hcz9_1⟩ := bc2 BK658.out; obtain ⟨hcz10_0, hcz10_1⟩ := bc2 BK659.out) | ((with_reducible refine gate_dst (N := 18) rfl ?_); refine Kd.N_lit (Kd.slice 3 (Kd.int .i64)) _ 25 ?hg (N' := 18) ?hd (xs := ([l1_0, l1_1] : List (List Int))) (inner := [.slice A1_0 l1_0.length c1_0, .slice A1_1 l1_1.length c1_1]) (ok := (fun k_ => ((P1_0_ k_ ∨ P1_1_ k_) ∨ w.heap.size ≤ k_) ∧ k_ ≠ gb658 ∧ k_ ≠ gb659)) (okp := (fun k_ => ((P1_0_ k_ ∨ P1_1_ k_) ∨ w.heap.size ≤ k_) ∧ k_ ≠ gb658 ∧ k_ ≠ gb659)) ?hr ?hp (fun _ hk => hk) ((show ∀ k_, w7.heap.size ≤ k_ → (fun k_ => ((P1_0_ k_ ∨ P1_1_ k_) ∨ w.heap.size ≤ k_) ∧ k_ ≠ gb658 ∧ k_ ≠ gb659) k_ from fun k_ hk => ⟨(.inr (Nat.le_trans (below_size bel) hk)), Kd.freshB (g := gb658) (o := .cells #[.int .i64 a0_0, .slice A0_1 l0_1.length c0_1] 24 (0, 0)) blkz k_ hk, Kd.freshB (g := gb659) (o := .cells #[.slice A1_0 l1_0.length c1_0, .slice A1_1 l1_1.length c1_1] 47 (0, 0)) blkz k_ hk⟩) _ (Nat.le_refl _)) (Below.refl _ _) (Nat.le_refl _) (by simp) ?_; (case hd => rfl); (case hg => rfl); (case hr => first | (go_simp; done) | (go_simp; rfl)); (case hp => exact (Reps.one (show Kd.FK (Kd.slice 3 (Kd.int .i64)) _ _ l1_0 [.slice A1_0 l1_0.length c1_0] from (Kd.FK_slice_mk (Kd.V_reads' (Kd.V_mono (ok' := (fun k_ => ((P1_0_ k_ ∨ P1_1_ k_) ∨ w.heap.size ≤ k_) ∧ k_ ≠ gb658 ∧ k_ ≠ gb659)) (HO1_0.out) (fun k_ hk => ⟨hk.1.1, ⟨hk.1.2, hk.2⟩⟩))).2.1 (Kd.V_F (Kd.V_mono (ok' := (fun k_ => ((P1_0_ k_ ∨ P1_1_ k_) ∨ w.heap.size ≤ k_) ∧ k_ ≠ gb658 ∧ k_ ≠ gb659)) (HO1_0.out) (fun k_ hk => ⟨hk.1.1, ⟨hk.1.2, hk.2⟩⟩))))) (Reps.one (show Kd.FK (Kd.slice 3 (Kd.int .i64)) _ _ l1_1 [.slice A1_1 l1_1.length c1_1] from (Kd.FK_slice_mk (Kd.V_reads' (Kd.V_mono (ok' := (fun k_ => ((P1_0_ k_ ∨ P1_1_ k_) ∨ w.heap.size ≤ k_) ∧ k_ ≠ gb658 ∧ k_ ≠ gb659)) (HO1_1.out) (fun k_ hk => ⟨hk.1.1, ⟨hk.1.2, hk.2⟩⟩))).2.1 (Kd.V_F (Kd.V_mono (ok' := (fun k_ => ((P1_0_ k_ ∨ P1_1_ k_) ∨ w.heap.size ≤ k_) ∧ k_ ≠ gb658 ∧ k_ ≠ gb659)) (HO1_1.out) (fun k_ hk => ⟨hk.1.1, ⟨hk.1.2, hk.2⟩⟩))))) (Reps.none _ _)))); intro v661 w11 ho12 hb hg_ hnew_; clear hg_ hnew_; (first | rw [← Ny660.out] at ho12 | (simp only [Int.reduceToNat] at ho12; rw [← Ny660.out] at ho12)); have HO662 := Aside0.mk (Kd.N_lower ho12 (below_size bel)); replace HO1_0 := Aside0.mk (Kd.V_elder' (by (with_reducible repeat (first | apply Kd.V_alloc | apply Kd.V_drewN | apply Kd.V_drew)); exact HO1_0.out) (Kd.N_base ho12) hb); replace HO1_1 := Aside0.mk (Kd.V_elder' (by (with_reducible repeat (first | apply Kd.V_alloc | apply Kd.V_drewN | apply Kd.V_drew)); exact HO1_1.out) (Kd.N_base ho12) hb); replace BK658 := Aside0.mk (blk_below (g := gb658) blkz hb); replace BK659 := Aside0.mk (blk_below (g := gb659) blkz hb); replace HB := Aside0.mk (below_step bel hb); clear hb ho12; obtain ⟨Ao13, co13, eo13⟩ := Kd.N_slice HO662.out; subst eo13) | ((with_reducible refine gate_callee (f := 29) rfl ?_); refine goesL_ (some 19) rfl rfl Try.func29 (by kernel_rfl) rfl #[.agg #[.int .i64 a0_0, .slice A0_1 l0_1.length c0_1], .slice Ao13 y660.length co13] rfl mapz ?_; (with_reducible refine (dropperlaw06_Large.calls k a0_0 _ _ l0_1 _ _ y660 true _ (cbz HR0_1) HC0_1.out ?side3 ?side4 A3.out).mono ?_); (case side3 => repeat (first | exact (Kd.N_reads' HO662.out).2.2 | (with_reducible refine Kd.C_alloc ?_ _) | (with_reducible refine Kd.C_drewN ?_ _) | (with_reducible refine Kd.C_drew ?_))); (case side4 => exact (Kd.N_reads' HO662.out).2.1); rintro e w14 ⟨rfl, hb⟩; refine ⟨_, rfl, ?_⟩; replace HO1_0 := Aside0.mk (Kd.V_below (by (with_reducible repeat (first | apply Kd.V_alloc | apply Kd.V_drewN | apply Kd.V_drew)); exact HO1_0.out) hb); replace HO1_1 := Aside0.mk (Kd.V_below (by (with_reducible repeat (first | apply Kd.V_alloc | apply Kd.V_drewN | apply Kd.V_drew)); exact HO1_1.out) hb); replace HO662 := Aside0.mk (Kd.N_below (by (with_reducible repeat (first | apply Kd.N_alloc | apply Kd.N_drewN | apply Kd.N_drew)); exact HO662.out) hb); replace BK658 := Aside0.mk (blk_below (g := gb658) blkz hb); replace BK659 := Aside0.mk (blk_below (g := gb659) blkz hb); replace HB := Aside0.mk (below_step bel hb); clear hb) | ((with_reducible refine gate_callee (f := 15) rfl ?_); refine goesL_ (some 20) rfl rfl Try.func15 (by kernel_rfl) rfl #[] rfl mapz ?_; (with_reducible refine (dropperlaw06_Awake.calls k  t664 _ A5.out).mono ?_); rintro e w15 ⟨rfl, hb⟩; refine ⟨_, rfl, ?_⟩; replace HO1_0 := Aside0.mk (Kd.V_below (by (with_reducible repeat (first | apply Kd.V_alloc | apply Kd.V_drewN | apply Kd.V_drew)); exact HO1_0.out) hb); replace HO1_1 := Aside0.mk (Kd.V_below (by (with_reducible repeat (first | apply Kd.V_alloc | apply Kd.V_drewN | apply Kd.V_drew)); exact HO1_1.out) hb); replace HO662 := Aside0.mk (Kd.N_below (by (with_reducible repeat (first | apply Kd.N_alloc | apply Kd.N_drewN | apply Kd.N_drew)); exact HO662.out) hb); replace BK658 := Aside0.mk (blk_below (g := gb658) blkz hb); replace BK659 := Aside0.mk (blk_below (g := gb659) blkz hb); replace HB := Aside0.mk (below_step bel hb); clear hb))
  go_ret
  exact ⟨ezz, bel⟩
 ·
  replace c4 := Bool.eq_false_iff.mpr c4
  subst c4
  rw [if_neg (show ¬ (false = true) by decide)] at H
  replace H := Option.bind_eq_some_iff.mp H
  obtain ⟨⟨t665, t668⟩, A160, H⟩ := H
  try dsimp only at H
  have A16 := Aside0.mk A160
  clear A160
  replace H := Option.bind_eq_some_iff.mp H
  obtain ⟨⟨t669, t672⟩, A170, H⟩ := H
  try dsimp only at H
  have A17 := Aside0.mk A170
  clear A170
  replace H := Option.bind_eq_some_iff.mp H
  obtain ⟨⟨t673, t676⟩, A180, H⟩ := H
  try dsimp only at H
  have A18 := Aside0.mk A180
  clear A180
  replace H := Option.bind_eq_some_iff.mp H
  obtain ⟨⟨t677, t680⟩, A190, H⟩ := H
  try dsimp only at H
  have A19 := Aside0.mk A190
  clear A190
  by_cases c20 : t668 = t672
  ·
   rw [if_pos c20] at H
   have c20b0 : (t668 == t672) = true := beq_iff_eq.mpr c20
   have c20b1 : (t668 != t672) = false := bne_eq_false_iff_eq.mpr c20
   clear c20
   replace H := Option.bind_eq_some_iff.mp H
   obtain ⟨t681, A210, H⟩ := H
   try dsimp only at H
   have A21 := Aside0.mk A210
   clear A210
   by_cases c22 : t681 = true
   ·
    subst c22
    rw [if_pos rfl] at H
    by_cases c23 : t676 = t680
    ·
     rw [if_pos c23] at H
     have c23b0 : (t676 == t680) = true := beq_iff_eq.mpr c23
     have c23b1 : (t676 != t680) = false := bne_eq_false_iff_eq.mpr c23
     clear c23
     replace H := Option.bind_eq_some_iff.mp H
     obtain ⟨t682, A240, H⟩ := H
     try dsimp only at H
     have A24 := Aside0.mk A240
     clear A240
     by_cases c25 : t682 = true
     ·
      subst c25
      rw [if_pos rfl] at H
      replace H := Option.bind_eq_some_iff.mp H
      obtain ⟨t683, A260, H⟩ := H
      try dsimp only at H
      have A26 := Aside0.mk A260
      clear A260
      obtain rfl := Option.some.inj H
      go_enter Try.func10, Try.ntmps10
      go_wp2_with (first | ((with_reducible refine gate_dst (N := 2) rfl ?_); refine box_event ?hg (N := 2) ?hd (cs := #[.int .i64 a0_0, .slice A0_1 l0_1.length c0_1]) (t := 24) ?hr ?_; (case hd => rfl); (case hg => rfl); (case hr => first | (go_simp; done) | (go_simp; rfl)); intro gb658 hg w27 hbox hb; have BK658 := Aside0.mk (hbox); have GW658 := bsz (w := w) hg; have GE658 := GW658; replace HO1_0 := Aside0.mk (Kd.V_below (Kd.V_elderB (by (with_reducible repeat (first | apply Kd.V_alloc | apply Kd.V_drewN | apply Kd.V_drew)); exact HO1_0.out) gb658 (Nat.le_of_eq hg.symm)) hb); replace HO1_1 := Aside0.mk (Kd.V_below (Kd.V_elderB (by (with_reducible repeat (first | apply Kd.V_alloc | apply Kd.V_drewN | apply Kd.V_drew)); exact HO1_1.out) gb658 (Nat.le_of_eq hg.symm)) hb); replace HB := Aside0.mk (below_step bel hb); clear hb hbox hg) | ((with_reducible refine gate_dst (N := 3) rfl ?_); refine box_event ?hg (N := 3) ?hd (cs := #[.slice A1_0 l1_0.length c1_0, .slice A1_1 l1_1.length c1_1]) (t := 47) ?hr ?_; (case hd => rfl); (case hg => rfl); (case hr => first | (go_simp; done) | (go_simp; rfl)); intro gb659 hg w28 hbox hb; have BK659 := Aside0.mk (hbox); have GW659 := bsz (w := w) hg; have GE659 := GW659; have NB658_659 := neL (g := gb658) hg; have NB659_658 := neR (g := gb658) hg; replace HO1_0 := Aside0.mk (Kd.V_below (Kd.V_elderB (by (with_reducible repeat (first | apply Kd.V_alloc | apply Kd.V_drewN | apply Kd.V_drew)); exact HO1_0.out) gb659 (Nat.le_of_eq hg.symm)) hb); replace HO1_1 := Aside0.mk (Kd.V_below (Kd.V_elderB (by (with_reducible repeat (first | apply Kd.V_alloc | apply Kd.V_drewN | apply Kd.V_drew)); exact HO1_1.out) gb659 (Nat.le_of_eq hg.symm)) hb); replace BK658 := Aside0.mk (blk_below (g := gb658) blkz hb); replace HB := Aside0.mk (below_step bel hb); clear hb hbox hg; have hnb29 := NB658_659.out; have hnc29 := NB659_658.out; obtain ⟨hcz30_0, hcz30_1⟩ := bc2 BK658.out; obtain ⟨hcz31_0, hcz31_1⟩ := bc2 BK659.out) | ((with_reducible refine gate_dst (N := 18) rfl ?_); refine Kd.N_lit (Kd.slice 3 (Kd.int .i64)) _ 25 ?hg (N' := 18) ?hd (xs := ([l1_0, l1_1] : List (List Int))) (inner := [.slice A1_0 l1_0.length c1_0, .slice A1_1 l1_1.length c1_1]) (ok := (fun k_ => ((P1_0_ k_ ∨ P1_1_ k_) ∨ w.heap.size ≤ k_) ∧ k_ ≠ gb658 ∧ k_ ≠ gb659)) (okp := (fun k_ => ((P1_0_ k_ ∨ P1_1_ k_) ∨ w.heap.size ≤ k_) ∧ k_ ≠ gb658 ∧ k_ ≠ gb659)) ?hr ?hp (fun _ hk => hk) ((show ∀ k_, w28.heap.size ≤ k_ → (fun k_ => ((P1_0_ k_ ∨ P1_1_ k_) ∨ w.heap.size ≤ k_) ∧ k_ ≠ gb658 ∧ k_ ≠ gb659) k_ from fun k_ hk => ⟨(.inr (Nat.le_trans (below_size bel) hk)), Kd.freshB (g := gb658) (o := .cells #[.int .i64 a0_0, .slice A0_1 l0_1.length c0_1] 24 (0, 0)) blkz k_ hk, Kd.freshB (g := gb659) (o := .cells #[.slice A1_0 l1_0.length c1_0, .slice A1_1 l1_1.length c1_1] 47 (0, 0)) blkz k_ hk⟩) _ (Nat.le_refl _)) (Below.refl _ _) (Nat.le_refl _) (by simp) ?_; (case hd => rfl); (case hg => rfl); (case hr => first | (go_simp; done) | (go_simp; rfl)); (case hp => exact (Reps.one (show Kd.FK (Kd.slice 3 (Kd.int .i64)) _ _ l1_0 [.slice A1_0 l1_0.length c1_0] from (Kd.FK_slice_mk (Kd.V_reads' (Kd.V_mono (ok' := (fun k_ => ((P1_0_ k_ ∨ P1_1_ k_) ∨ w.heap.size ≤ k_) ∧ k_ ≠ gb658 ∧ k_ ≠ gb659)) (HO1_0.out) (fun k_ hk => ⟨hk.1.1, ⟨hk.1.2, hk.2⟩⟩))).2.1 (Kd.V_F (Kd.V_mono (ok' := (fun k_ => ((P1_0_ k_ ∨ P1_1_ k_) ∨ w.heap.size ≤ k_) ∧ k_ ≠ gb658 ∧ k_ ≠ gb659)) (HO1_0.out) (fun k_ hk => ⟨hk.1.1, ⟨hk.1.2, hk.2⟩⟩))))) (Reps.one (show Kd.FK (Kd.slice 3 (Kd.int .i64)) _ _ l1_1 [.slice A1_1 l1_1.length c1_1] from (Kd.FK_slice_mk (Kd.V_reads' (Kd.V_mono (ok' := (fun k_ => ((P1_0_ k_ ∨ P1_1_ k_) ∨ w.heap.size ≤ k_) ∧ k_ ≠ gb658 ∧ k_ ≠ gb659)) (HO1_1.out) (fun k_ hk => ⟨hk.1.1, ⟨hk.1.2, hk.2⟩⟩))).2.1 (Kd.V_F (Kd.V_mono (ok' := (fun k_ => ((P1_0_ k_ ∨ P1_1_ k_) ∨ w.heap.size ≤ k_) ∧ k_ ≠ gb658 ∧ k_ ≠ gb659)) (HO1_1.out) (fun k_ hk => ⟨hk.1.1, ⟨hk.1.2, hk.2⟩⟩))))) (Reps.none _ _)))); intro v661 w32 ho33 hb hg_ hnew_; clear hg_ hnew_; (first | rw [← Ny660.out] at ho33 | (simp only [Int.reduceToNat] at ho33; rw [← Ny660.out] at ho33)); have HO662 := Aside0.mk (Kd.N_lower ho33 (below_size bel)); replace HO1_0 := Aside0.mk (Kd.V_elder' (by (with_reducible repeat (first | apply Kd.V_alloc | apply Kd.V_drewN | apply Kd.V_drew)); exact HO1_0.out) (Kd.N_base ho33) hb); replace HO1_1 := Aside0.mk (Kd.V_elder' (by (with_reducible repeat (first | apply Kd.V_alloc | apply Kd.V_drewN | apply Kd.V_drew)); exact HO1_1.out) (Kd.N_base ho33) hb); replace BK658 := Aside0.mk (blk_below (g := gb658) blkz hb); replace BK659 := Aside0.mk (blk_below (g := gb659) blkz hb); replace HB := Aside0.mk (below_step bel hb); clear hb ho33; obtain ⟨Ao34, co34, eo34⟩ := Kd.N_slice HO662.out; subst eo34) | ((with_reducible refine gate_callee (f := 29) rfl ?_); refine goesL_ (some 19) rfl rfl Try.func29 (by kernel_rfl) rfl #[.agg #[.int .i64 a0_0, .slice A0_1 l0_1.length c0_1], .slice Ao34 y660.length co34] rfl mapz ?_; (with_reducible refine (dropperlaw06_Large.calls k a0_0 _ _ l0_1 _ _ y660 false _ (cbz HR0_1) HC0_1.out ?side3 ?side4 A3.out).mono ?_); (case side3 => repeat (first | exact (Kd.N_reads' HO662.out).2.2 | (with_reducible refine Kd.C_alloc ?_ _) | (with_reducible refine Kd.C_drewN ?_ _) | (with_reducible refine Kd.C_drew ?_))); (case side4 => exact (Kd.N_reads' HO662.out).2.1); rintro e w35 ⟨rfl, hb⟩; refine ⟨_, rfl, ?_⟩; replace HO1_0 := Aside0.mk (Kd.V_below (by (with_reducible repeat (first | apply Kd.V_alloc | apply Kd.V_drewN | apply Kd.V_drew)); exact HO1_0.out) hb); replace HO1_1 := Aside0.mk (Kd.V_below (by (with_reducible repeat (first | apply Kd.V_alloc | apply Kd.V_drewN | apply Kd.V_drew)); exact HO1_1.out) hb); replace HO662 := Aside0.mk (Kd.N_below (by (with_reducible repeat (first | apply Kd.N_alloc | apply Kd.N_drewN | apply Kd.N_drew)); exact HO662.out) hb); replace BK658 := Aside0.mk (blk_below (g := gb658) blkz hb); replace BK659 := Aside0.mk (blk_below (g := gb659) blkz hb); replace HB := Aside0.mk (below_step bel hb); clear hb; obtain ⟨hcz36_0, hcz36_1⟩ := bc2 BK658.out; obtain ⟨hcz37_0, hcz37_1⟩ := bc2 BK659.out) | ((with_reducible refine gate_callee (f := 19) rfl ?_); refine goesL_ (some 27) rfl rfl Try.func19 (by kernel_rfl) rfl #[.agg #[.int .i64 a0_0, .slice A0_1 l0_1.length c0_1], .slice A1_0 l1_0.length c1_0, .slice A1_1 l1_1.length c1_1] rfl mapz ?_; (with_reducible refine (key_Way.calls a0_0 _ _ l0_1 _ _ l1_0 _ _ l1_1 t665 t668 _ (cbz HR0_1) HC0_1.out ?side3 ?side4 ?side5 ?side6 A16.out).mono ?_); (case side3 => repeat (first | exact (Kd.V_reads' HO1_0.out).2.2 | (with_reducible refine Kd.C_alloc ?_ _) | (with_reducible refine Kd.C_drewN ?_ _) | (with_reducible refine Kd.C_drew ?_))); (case side4 => exact (Kd.V_reads' HO1_0.out).2.1); (case side5 => repeat (first | exact (Kd.V_reads' HO1_1.out).2.2 | (with_reducible refine Kd.C_alloc ?_ _) | (with_reducible refine Kd.C_drewN ?_ _) | (with_reducible refine Kd.C_drew ?_))); (case side6 => exact (Kd.V_reads' HO1_1.out).2.1); rintro e w38 ⟨v666, rfl, ho0, hb⟩; refine ⟨_, rfl, ?_⟩; have HO667 := Aside0.mk (Kd.R_lower (Kd.R_newM (M := fun k_ => (w.heap.size ≤ k_)) ho0 (below_size bel) (fun k_ h_ => h_)) (below_size bel)); replace HO1_0 := Aside0.mk (Kd.V_elder' (by (with_reducible repeat (first | apply Kd.V_alloc | apply Kd.V_drewN | apply Kd.V_drew)); exact HO1_0.out) (Kd.R_base ho0) hb); replace HO1_1 := Aside0.mk (Kd.V_elder' (by (with_reducible repeat (first | apply Kd.V_alloc | apply Kd.V_drewN | apply Kd.V_drew)); exact HO1_1.out) (Kd.R_base ho0) hb); replace HO662 := Aside0.mk (Kd.N_elder' (by (with_reducible repeat (first | apply Kd.N_alloc | apply Kd.N_drewN | apply Kd.N_drew)); exact HO662.out) (Kd.R_base ho0) hb); replace BK658 := Aside0.mk (blk_below (g := gb658) blkz hb); replace BK659 := Aside0.mk (blk_below (g := gb659) blkz hb); replace HB := Aside0.mk (below_step bel hb); (try clear hb); (try clear hb2); (try clear hk); (try clear hi); (try clear ho0); obtain ⟨hcz39_0, hcz39_1⟩ := bc2 BK658.out; obtain ⟨hcz40_0, hcz40_1⟩ := bc2 BK659.out) | ((with_reducible refine gate_callee (f := 47) rfl ?_); refine goesL_ (some 36) rfl rfl Try.func47 (by kernel_rfl) rfl #[.agg #[.int .i64 a0_0, .slice A0_1 l0_1.length c0_1], .slice A1_0 l1_0.length c1_0, .slice A1_1 l1_1.length c1_1] rfl mapz ?_; (with_reducible refine (dropperref06_Way.calls k a0_0 _ _ l0_1 (fun k_ => ((((((P1_0_ k_ ∨ P1_1_ k_) ∨ w.heap.size ≤ k_) ∧ k_ ≠ gb658) ∧ k_ ≠ gb659) ∧ some k_ ≠ (.slice Ao34 y660.length co34 : Value).ownBlock) ∧ some k_ ≠ (v666 : Value).ownBlock)) _ _ l1_0 (fun k_ => ((((((P1_0_ k_ ∨ P1_1_ k_) ∨ w.heap.size ≤ k_) ∧ k_ ≠ gb658) ∧ k_ ≠ gb659) ∧ some k_ ≠ (.slice Ao34 y660.length co34 : Value).ownBlock) ∧ some k_ ≠ (v666 : Value).ownBlock)) _ _ l1_1 t669 t672 _ (cbz HR0_1) HC0_1.out HO1_0.out HO1_1.out A17.out).mono ?_); rintro e w41 ⟨v670, rfl, ho0, hb⟩; refine ⟨_, rfl, ?_⟩; have HO671 := Aside0.mk (Kd.V_lower (Kd.V_mono (ok' := fun k_ => ((P1_0_ k_ ∨ P1_1_ k_) ∨ w.heap.size ≤ k_) ∧ some k_ ≠ (.slice Ao34 y660.length co34 : Value).ownBlock ∧ some k_ ≠ (v666 : Value).ownBlock ∧ k_ ≠ gb658 ∧ k_ ≠ gb659) ho0 (fun k_ hk_ => ⟨Or.elim hk_ (fun hs_ => Or.elim hs_ (fun hs_ => hs_.1.1.1.1) (fun hs_ => hs_.1.1.1.1)) (fun hn_ => (.inr (Nat.le_trans (below_size bel) hn_))), Or.elim hk_ (fun hs_ => Or.elim hs_ (fun hs_ => hs_.1.2) (fun hs_ => hs_.1.2)) (fun hn_ => (Kd.fresh' (Kd.N_lt (by (with_reducible repeat (first | apply Kd.N_alloc | apply Kd.N_drewN | apply Kd.N_drew)); exact HO662.out)) k_ hn_)), Or.elim hk_ (fun hs_ => Or.elim hs_ (fun hs_ => hs_.2) (fun hs_ => hs_.2)) (fun hn_ => (Kd.fresh' (Kd.R_lt (ownx HO667)) k_ hn_)), Or.elim hk_ (fun hs_ => Or.elim hs_ (fun hs_ => hs_.1.1.1.2) (fun hs_ => hs_.1.1.1.2)) (fun hn_ => (Kd.freshB (g := gb658) (o := .cells #[.int .i64 a0_0, .slice A0_1 l0_1.length c0_1] 24 (0, 0)) blkz k_ hn_)), Or.elim hk_ (fun hs_ => Or.elim hs_ (fun hs_ => hs_.1.1.2) (fun hs_ => hs_.1.1.2)) (fun hn_ => (Kd.freshB (g := gb659) (o := .cells #[.slice A1_0 l1_0.length c1_0, .slice A1_1 l1_1.length c1_1] 47 (0, 0)) blkz k_ hn_))⟩)) (below_size bel)); replace HO1_0 := Aside0.mk (Kd.V_below (by (with_reducible repeat (first | apply Kd.V_alloc | apply Kd.V_drewN | apply Kd.V_drew)); exact HO1_0.out) hb); replace HO1_1 := Aside0.mk (Kd.V_below (by (with_reducible repeat (first | apply Kd.V_alloc | apply Kd.V_drewN | apply Kd.V_drew)); exact HO1_1.out) hb); replace HO662 := Aside0.mk (Kd.N_below (by (with_reducible repeat (first | apply Kd.N_alloc | apply Kd.N_drewN | apply Kd.N_drew)); exact HO662.out) hb); replace HO667 := Aside0.mk (Kd.R_below (ownx HO667) hb); replace BK658 := Aside0.mk (blk_below (g := gb658) blkz hb); replace BK659 := Aside0.mk (blk_below (g := gb659) blkz hb); replace HB := Aside0.mk (below_step bel hb); (try clear hb); (try clear hb2); (try clear hk); (try clear hi); (try clear ho0); obtain ⟨hcz42_0, hcz42_1⟩ := bc2 BK658.out; obtain ⟨hcz43_0, hcz43_1⟩ := bc2 BK659.out) | ((with_reducible refine gate_callee (f := 20) rfl ?_); refine goesL_ (some 45) rfl rfl Try.func20 (by kernel_rfl) rfl #[.agg #[.int .i64 a0_0, .slice A0_1 l0_1.length c0_1], .slice A1_0 l1_0.length c1_0, .slice A1_1 l1_1.length c1_1] rfl mapz ?_; (with_reducible refine (key_Cover.calls a0_0 _ _ l0_1 _ _ l1_0 _ _ l1_1 t673 t676 _ (cbz HR0_1) HC0_1.out ?side3 ?side4 ?side5 ?side6 A18.out).mono ?_); (case side3 => repeat (first | exact (Kd.V_reads' HO1_0.out).2.2 | (with_reducible refine Kd.C_alloc ?_ _) | (with_reducible refine Kd.C_drewN ?_ _) | (with_reducible refine Kd.C_drew ?_))); (case side4 => exact (Kd.V_reads' HO1_0.out).2.1); (case side5 => repeat (first | exact (Kd.V_reads' HO1_1.out).2.2 | (with_reducible refine Kd.C_alloc ?_ _) | (with_reducible refine Kd.C_drewN ?_ _) | (with_reducible refine Kd.C_drew ?_))); (case side6 => exact (Kd.V_reads' HO1_1.out).2.1); rintro e w44 ⟨v674, rfl, ho0, hb⟩; refine ⟨_, rfl, ?_⟩; have HO675 := Aside0.mk (Kd.R_lower (Kd.R_new' (Kd.R_newM (M := fun k_ => (w.heap.size ≤ k_)) ho0 (below_size bel) (fun k_ h_ => h_)) (Kd.R_lt (ownx HO667))) (below_size bel)); replace HO1_0 := Aside0.mk (Kd.V_elder' (by (with_reducible repeat (first | apply Kd.V_alloc | apply Kd.V_drewN | apply Kd.V_drew)); exact HO1_0.out) (Kd.R_base ho0) hb); replace HO1_1 := Aside0.mk (Kd.V_elder' (by (with_reducible repeat (first | apply Kd.V_alloc | apply Kd.V_drewN | apply Kd.V_drew)); exact HO1_1.out) (Kd.R_base ho0) hb); replace HO662 := Aside0.mk (Kd.N_elder' (by (with_reducible repeat (first | apply Kd.N_alloc | apply Kd.N_drewN | apply Kd.N_drew)); exact HO662.out) (Kd.R_base ho0) hb); replace HO667 := Aside0.mk (Kd.R_elder' (ownx HO667) (Kd.R_base ho0) hb); replace HO671 := Aside0.mk (Kd.V_elder' (by (with_reducible repeat (first | apply Kd.V_alloc | apply Kd.V_drewN | apply Kd.V_drew)); exact HO671.out) (Kd.R_base ho0) hb); replace BK658 := Aside0.mk (blk_below (g := gb658) blkz hb); replace BK659 := Aside0.mk (blk_below (g := gb659) blkz hb); replace HB := Aside0.mk (below_step bel hb); (try clear hb); (try clear hb2); (try clear hk); (try clear hi); (try clear ho0); obtain ⟨hcz45_0, hcz45_1⟩ := bc2 BK658.out; obtain ⟨hcz46_0, hcz46_1⟩ := bc2 BK659.out) | ((with_reducible refine gate_callee (f := 48) rfl ?_); refine goesL_ (some 54) rfl rfl Try.func48 (by kernel_rfl) rfl #[.agg #[.int .i64 a0_0, .slice A0_1 l0_1.length c0_1], .slice A1_0 l1_0.length c1_0, .slice A1_1 l1_1.length c1_1] rfl mapz ?_; (with_reducible refine (dropperref06_Cover.calls k a0_0 _ _ l0_1 (fun k_ => (((((((P1_0_ k_ ∨ P1_1_ k_) ∨ w.heap.size ≤ k_) ∧ k_ ≠ gb658) ∧ k_ ≠ gb659) ∧ some k_ ≠ (.slice Ao34 y660.length co34 : Value).ownBlock) ∧ some k_ ≠ (v666 : Value).ownBlock) ∧ some k_ ≠ (v674 : Value).ownBlock)) _ _ l1_0 (fun k_ => (((((((P1_0_ k_ ∨ P1_1_ k_) ∨ w.heap.size ≤ k_) ∧ k_ ≠ gb658) ∧ k_ ≠ gb659) ∧ some k_ ≠ (.slice Ao34 y660.length co34 : Value).ownBlock) ∧ some k_ ≠ (v666 : Value).ownBlock) ∧ some k_ ≠ (v674 : Value).ownBlock)) _ _ l1_1 t677 t680 _ (cbz HR0_1) HC0_1.out HO1_0.out HO1_1.out A19.out).mono ?_); rintro e w47 ⟨v678, rfl, ho0, hb⟩; refine ⟨_, rfl, ?_⟩; have HO679 := Aside0.mk (Kd.V_lower (Kd.V_mono (ok' := fun k_ => ((P1_0_ k_ ∨ P1_1_ k_) ∨ w.heap.size ≤ k_) ∧ some k_ ≠ (.slice Ao34 y660.length co34 : Value).ownBlock ∧ some k_ ≠ (v666 : Value).ownBlock ∧ some k_ ≠ (v674 : Value).ownBlock ∧ k_ ≠ gb658 ∧ k_ ≠ gb659) ho0 (fun k_ hk_ => ⟨Or.elim hk_ (fun hs_ => Or.elim hs_ (fun hs_ => hs_.1.1.1.1.1) (fun hs_ => hs_.1.1.1.1.1)) (fun hn_ => (.inr (Nat.le_trans (below_size bel) hn_))), Or.elim hk_ (fun hs_ => Or.elim hs_ (fun hs_ => hs_.1.1.2) (fun hs_ => hs_.1.1.2)) (fun hn_ => (Kd.fresh' (Kd.N_lt (by (with_reducible repeat (first | apply Kd.N_alloc | apply Kd.N_drewN | apply Kd.N_drew)); exact HO662.out)) k_ hn_)), Or.elim hk_ (fun hs_ => Or.elim hs_ (fun hs_ => hs_.1.2) (fun hs_ => hs_.1.2)) (fun hn_ => (Kd.fresh' (Kd.R_lt (ownx HO667)) k_ hn_)), Or.elim hk_ (fun hs_ => Or.elim hs_ (fun hs_ => hs_.2) (fun hs_ => hs_.2)) (fun hn_ => (Kd.fresh' (Kd.R_lt (ownx HO675)) k_ hn_)), Or.elim hk_ (fun hs_ => Or.elim hs_ (fun hs_ => hs_.1.1.1.1.2) (fun hs_ => hs_.1.1.1.1.2)) (fun hn_ => (Kd.freshB (g := gb658) (o := .cells #[.int .i64 a0_0, .slice A0_1 l0_1.length c0_1] 24 (0, 0)) blkz k_ hn_)), Or.elim hk_ (fun hs_ => Or.elim hs_ (fun hs_ => hs_.1.1.1.2) (fun hs_ => hs_.1.1.1.2)) (fun hn_ => (Kd.freshB (g := gb659) (o := .cells #[.slice A1_0 l1_0.length c1_0, .slice A1_1 l1_1.length c1_1] 47 (0, 0)) blkz k_ hn_))⟩)) (below_size bel)); replace HO1_0 := Aside0.mk (Kd.V_below (by (with_reducible repeat (first | apply Kd.V_alloc | apply Kd.V_drewN | apply Kd.V_drew)); exact HO1_0.out) hb); replace HO1_1 := Aside0.mk (Kd.V_below (by (with_reducible repeat (first | apply Kd.V_alloc | apply Kd.V_drewN | apply Kd.V_drew)); exact HO1_1.out) hb); replace HO662 := Aside0.mk (Kd.N_below (by (with_reducible repeat (first | apply Kd.N_alloc | apply Kd.N_drewN | apply Kd.N_drew)); exact HO662.out) hb); replace HO667 := Aside0.mk (Kd.R_below (ownx HO667) hb); replace HO671 := Aside0.mk (Kd.V_below (by (with_reducible repeat (first | apply Kd.V_alloc | apply Kd.V_drewN | apply Kd.V_drew)); exact HO671.out) hb); replace HO675 := Aside0.mk (Kd.R_below (ownx HO675) hb); replace BK658 := Aside0.mk (blk_below (g := gb658) blkz hb); replace BK659 := Aside0.mk (blk_below (g := gb659) blkz hb); replace HB := Aside0.mk (below_step bel hb); (try clear hb); (try clear hb2); (try clear hk); (try clear hi); (try clear ho0); obtain ⟨Ao48, co48, eo48⟩ := Kd.R_slice HO667.out; subst eo48; obtain ⟨Ao49, co49, eo49⟩ := Kd.V_slice HO671.out; subst eo49) | (go_at_call 27; (with_reducible refine (dropperlaw06_SameInts.calls k _ _ t665 _ _ t669 true _ ?side1 ?side2 ?side3 ?side4 A21.out).mono ?_); (case side1 => repeat (first | exact (Kd.R_reads' HO667.out).2.2 | (with_reducible refine Kd.C_alloc ?_ _) | (with_reducible refine Kd.C_drewN ?_ _) | (with_reducible refine Kd.C_drew ?_))); (case side2 => exact (Kd.R_reads' HO667.out).2.1); (case side3 => repeat (first | exact (Kd.V_reads' HO671.out).2.2 | (with_reducible refine Kd.C_alloc ?_ _) | (with_reducible refine Kd.C_drewN ?_ _) | (with_reducible refine Kd.C_drew ?_))); (case side4 => exact (Kd.V_reads' HO671.out).2.1); rintro e w' ⟨rfl, ⟨nd, rfl⟩⟩; obtain ⟨Ao50, co50, eo50⟩ := Kd.R_slice HO675.out; subst eo50; obtain ⟨Ao51, co51, eo51⟩ := Kd.V_slice HO679.out; subst eo51) | (go_at_call 27; (with_reducible refine (dropperlaw06_SameInts.calls k _ _ t673 _ _ t677 true _ ?side1 ?side2 ?side3 ?side4 A24.out).mono ?_); (case side1 => repeat (first | exact (Kd.R_reads' HO675.out).2.2 | (with_reducible refine Kd.C_alloc ?_ _) | (with_reducible refine Kd.C_drewN ?_ _) | (with_reducible refine Kd.C_drew ?_))); (case side2 => exact (Kd.R_reads' HO675.out).2.1); (case side3 => repeat (first | exact (Kd.V_reads' HO679.out).2.2 | (with_reducible refine Kd.C_alloc ?_ _) | (with_reducible refine Kd.C_drewN ?_ _) | (with_reducible refine Kd.C_drew ?_))); (case side4 => exact (Kd.V_reads' HO679.out).2.1); rintro e w' ⟨rfl, ⟨nd, rfl⟩⟩) | (go_at_call 15; (with_reducible refine (dropperlaw06_Awake.calls k  t683 _ A26.out).mono ?_); rintro e w52 ⟨rfl, hb⟩; replace HO1_0 := Aside0.mk (Kd.V_below (by (with_reducible repeat (first | apply Kd.V_alloc | apply Kd.V_drewN | apply Kd.V_drew)); exact HO1_0.out) hb); replace HO1_1 := Aside0.mk (Kd.V_below (by (with_reducible repeat (first | apply Kd.V_alloc | apply Kd.V_drewN | apply Kd.V_drew)); exact HO1_1.out) hb); replace HO662 := Aside0.mk (Kd.N_below (by (with_reducible repeat (first | apply Kd.N_alloc | apply Kd.N_drewN | apply Kd.N_drew)); exact HO662.out) hb); replace HO667 := Aside0.mk (Kd.R_below (ownx HO667) hb); replace HO671 := Aside0.mk (Kd.V_below (by (with_reducible repeat (first | apply Kd.V_alloc | apply Kd.V_drewN | apply Kd.V_drew)); exact HO671.out) hb); replace HO675 := Aside0.mk (Kd.R_below (ownx HO675) hb); replace HO679 := Aside0.mk (Kd.V_below (by (with_reducible repeat (first | apply Kd.V_alloc | apply Kd.V_drewN | apply Kd.V_drew)); exact HO679.out) hb); replace BK658 := Aside0.mk (blk_below (g := gb658) blkz hb); replace BK659 := Aside0.mk (blk_below (g := gb659) blkz hb); replace HB := Aside0.mk (below_step bel hb); clear hb))
      go_ret
      exact ⟨ezz, bel⟩
     ·
      replace c25 := Bool.eq_false_iff.mpr c25
      subst c25
      rw [if_neg (show ¬ (false = true) by decide)] at H
      exact absurd H (by simp)
    ·
     rw [if_neg c23] at H
     exact absurd H (by simp)
   ·
    replace c22 := Bool.eq_false_iff.mpr c22
    subst c22
    rw [if_neg (show ¬ (false = true) by decide)] at H
    exact absurd H (by simp)
  ·
   rw [if_neg c20] at H
   exact absurd H (by simp)

end Go.Proofs.Ytgdfakmlpdeabaa.XKey
-- Written by wip/xprint.py of this repo, over the kit's print.py: out of the translation; the oracles in it are by hand. Not trusted: Lean checks it.
namespace Go.Proofs.Ytgdfakmlpdeabaa.XKey
open Go.RowKit Go.Proofs.Ytgdfakmlpdeabaa.XKey Go.Proofs.YtgdfakmlpdeabaaW.PrintWords Go.Proofs.YtgdfakmlpdeabaaW.PrintLast Go.Proofs.YtgdfakmlpdeabaaW.PrintMore
def dropperlaw06_KeyWays.Pure : Prop := ∀ (a0_0 : Int) (l0_1 : List (S64)) (l1_0 : List Int) (l1_1 : List Int), ((Lit.int .i64 a0_0).wf = true) → (l0_1.length ≤ 9223372036854775807 ∧ ∀ y0 ∈ l0_1, (y0.f0.length ≤ 9223372036854775807 ∧ ∀ y1 ∈ y0.f0, (Lit.int .i64 y1).wf = true) ∧ (y0.f1.length ≤ 9223372036854775807 ∧ ∀ y1 ∈ y0.f1, (Lit.int .i64 y1).wf = true)) → (l1_0.length ≤ 9223372036854775807 ∧ ∀ y0 ∈ l1_0, (Lit.int .i64 y0).wf = true) → (l1_1.length ≤ 9223372036854775807 ∧ ∀ y0 ∈ l1_1, (Lit.int .i64 y0).wf = true) → ∃ k, dropperlaw06_KeyWays.f k a0_0 l0_1 l1_0 l1_1 = some true
end Go.Proofs.Ytgdfakmlpdeabaa.XKey

namespace Go.Proofs.Ytgdfakmlpdeabaa.XKey
open Go.RowKit Go.Proofs.YtgdfakmlpdeabaaW.PrintWords Go.Proofs.YtgdfakmlpdeabaaW.PrintLast Go.Proofs.YtgdfakmlpdeabaaW.PrintMore
attribute [local go_sem] max2_int min2_int max_two min_two max_three min_three max_four min_four   -- for this text's walks alone
set_option linter.unusedVariables false
set_option linter.unusedSimpArgs false
/-! ### key_Greatest: function 17 -/
def key_Greatest.up (s x : List Int) : List Int := List.zipWith max s x
def key_Greatest.f (a0_0 : Int) (l0_1 : List S64) (l1 : List Int) : Option (List Int × Int) := (key_reach.f a0_0 l0_1 l1).bind fun (all, e) => if e = 0 then (if 0 ≤ a0_0 ∧ a0_0 ≤ 6 then some (((all.map key_spread.toL).foldl key_Greatest.up [0, 0, 0, 0, 0, 0]).take a0_0.toNat, 0) else none) else some ([], e)
theorem key_Greatest.drop {l : List S70} {x : Int} (h0 : 0 ≤ x) (h1 : x < (l.length : Int)) : l.drop x.toNat = rd_T70 l x :: l.drop (x + 1).toNat := by
 have h : x.toNat < l.length := by omega
 rw [List.drop_eq_getElem_cons h, show (x + 1).toNat = x.toNat + 1 by omega]
 simp [rd_T70, List.getD_eq_getElem?_getD, h]
/-! ### droppertop_among: function 26 -/
def droppertop_among.l0 : Nat → List (List Int) → List Int → Int → Option (Bool)
 | 0, _, _, _ => none
 | k + 1, x0, x1, x5 => if x5 < (x0.length : Int) then (if 0 ≤ x5 then ((dropperlaw06_SameInts.f k (rd_L1 x0 x5) x1).bind fun t726 => (if t726 = true then (some true) else (droppertop_among.l0 k x0 x1 (wrap64 (x5 + 1))))) else (none)) else (some false)
def droppertop_among.f (k : Nat) (l0 : List (List Int)) (l1 : List Int) : Option (Bool) := droppertop_among.l0 k l0 l1 0
/-! ### key_After: function 28 -/
def key_After.l0 : Nat → List Int → Int → Int → Int → List (S64) → Int → Int → Int → Int → Int → Int → Option (List Int × Int)
 | 0, _, _, _, _, _, _, _, _, _, _, _ => none
 | k + 1, x38, x39, x40, x551000, x551001, x563000, x563001, x563002, x563003, x563004, x563005 => if x40 < x39 then (if 0 ≤ x40 then (if x40 < (x38.length : Int) then (if 0 ≤ (rd x38 x40) then (if (rd x38 x40) < (x551001.length : Int) then ((key_keys_made.f x563000 x563001 x563002 x563003 x563004 x563005 ((rd_T64 x551001 (rd x38 x40)).f0) ((rd_T64 x551001 (rd x38 x40)).f1)).bind fun bt565 => (if bt565.2.2.2.2.2.2 = true then (key_After.l0 k x38 x39 (wrap64 (x40 + 1)) x551000 x551001 bt565.1 bt565.2.1 bt565.2.2.1 bt565.2.2.2.1 bt565.2.2.2.2.1 bt565.2.2.2.2.2.1) else (some (([] : List Int), 5)))) else (none)) else (none)) else (none)) else (none)) else ((key_keys_list.f x563000 x563001 x563002 x563003 x563004 x563005 x551000).bind fun t572 => (some (t572, 0)))
def key_After.f (k : Nat) (a0_0 : Int) (l0_1 : List (S64)) (l1 : List Int) (l2 : List Int) : Option (List Int × Int) := (key_open.f a0_0 l0_1 (([l1] : List (List Int)))).bind fun t554 => (if t554 = 0 then (if (l2.length : Int) > 1000 then (some (([] : List Int), 2)) else ((key_isList.f l2 (l2.length : Int) 0 (wrap64 ((l0_1.length : Int) - 1))).bind fun t555 => (if t555 = true then ((key_keysOf.f l1).bind fun bt556 => (key_After.l0 k l2 (l2.length : Int) 0 a0_0 l0_1 bt556.1 bt556.2.1 bt556.2.2.1 bt556.2.2.2.1 bt556.2.2.2.2.1 bt556.2.2.2.2.2)) else (some (([] : List Int), 2))))) else (some (([] : List Int), t554)))
/-! ### key_within: function 78 -/
def key_within.f (a0 : Int) (a1 : Int) (a2 : Int) : Option (Bool) := if a0 ≤ a1 then (some (decide (a1 ≤ a2))) else (some false)
/-! ### key_Make: function 41 -/
def key_Make.f (a0_0 : Int) (l0_1 : List (S64)) (l1 : List Int) (a2 : Int) : Option (List Int × Int) := (key_open.f a0_0 l0_1 (([l1] : List (List Int)))).bind fun t471 => (if t471 = 0 then ((key_within.f 0 a2 (wrap64 ((l0_1.length : Int) - 1))).bind fun t472 => (if t472 = true then ((key_keysOf.f l1).bind fun bt473 => (if 0 ≤ a2 then (if a2 < (l0_1.length : Int) then ((key_keys_made.f bt473.1 bt473.2.1 bt473.2.2.1 bt473.2.2.2.1 bt473.2.2.2.2.1 bt473.2.2.2.2.2 ((rd_T64 l0_1 a2).f0) ((rd_T64 l0_1 a2).f1)).bind fun bt480 => (if bt480.2.2.2.2.2.2 = true then ((key_keys_list.f bt480.1 bt480.2.1 bt480.2.2.1 bt480.2.2.2.1 bt480.2.2.2.2.1 bt480.2.2.2.2.2.1 a0_0).bind fun t488 => (some (t488, 0))) else (some (([] : List Int), 5)))) else (none)) else (none))) else (some (([] : List Int), 2)))) else (some (([] : List Int), t471)))
/-! ### key_Can: function 24 -/
def key_Can.f (k : Nat) (a0_0 : Int) (l0_1 : List (S64)) (l1 : List Int) : Option (List Int × Int) := (key_open.f a0_0 l0_1 (([l1] : List (List Int)))).bind fun t457 => (if t457 = 0 then ((key_keysOf.f l1).bind fun bt458 => ((key_can.f k a0_0 l0_1 bt458.1 bt458.2.1 bt458.2.2.1 bt458.2.2.2.1 bt458.2.2.2.2.1 bt458.2.2.2.2.2).bind fun t464 => (some (t464, 0)))) else (some (([] : List Int), t457)))
/-! ### dropperref06_play: function 81 -/
mutual
def dropperref06_play.j0 : Nat → List Int → List Int → Bool → Int → List (S64) → Option (List Int × Bool × Bool)
 | 0, _, _, _, _, _ => none
 | k + 1, x1, x2, x25, x492000, x492001 => if x25 = true then (some (([] : List Int), false, false)) else ((some (([] : List Int) : List Int)).bind fun y493 => (if y493.length + x1.length < 17592186044416 then (dropperref06_play.l0 k x2 (y493 ++ x1) 0 x492000 x492001) else (none)))
def dropperref06_play.l0 : Nat → List Int → List Int → Int → Int → List (S64) → Option (List Int × Bool × Bool)
 | 0, _, _, _, _, _ => none
 | k + 1, x2, x6, x9, x492000, x492001 => if x9 < (x2.length : Int) then (if 0 ≤ x9 then (if 0 ≤ (rd x2 x9) then (if (rd x2 x9) < (x492001.length : Int) then ((dropperref06_after.f k ((rd_T64 x492001 (rd x2 x9)).f0) ((rd_T64 x492001 (rd x2 x9)).f1) x6).bind fun bt501 => (if bt501.2 = true then (dropperref06_play.l0 k x2 bt501.1 (wrap64 (x9 + 1)) x492000 x492001) else (some (([] : List Int), true, false)))) else (none)) else (none)) else (none)) else (some (x6, true, true))
end
def dropperref06_play.f (k : Nat) (a0_0 : Int) (l0_1 : List (S64)) (l1 : List Int) (l2 : List Int) : Option (List Int × Bool × Bool) := if (l2.length : Int) > 1000 then (dropperref06_play.j0 k l1 l2 true a0_0 l0_1) else ((dropperref06_list.f k l2 (l2.length : Int) 0 (wrap64 ((l0_1.length : Int) - 1))).bind fun t492 => (dropperref06_play.j0 k l1 l2 (!t492) a0_0 l0_1))
def dropperref06_play.B7 : List Nat := [0, 1, 0, 0, 12, 28, 63, 127, 0, 511, 1023, 2047, 2047, 4095, 16383]
/-! ### dropperref06_After: function 44 -/
def dropperref06_After.f (k : Nat) (a0_0 : Int) (l0_1 : List (S64)) (l1 : List Int) (l2 : List Int) : Option (List Int × Int) := (dropperref06_asked.f k a0_0 l0_1 (([l1] : List (List Int)))).bind fun t509 => (if t509 = 0 then ((dropperref06_play.f k a0_0 l0_1 l1 l2).bind fun bt510 => (if bt510.2.1 = true then (if bt510.2.2 = true then (some (bt510.1, 0)) else (some (([] : List Int), 5))) else (some (([] : List Int), 2)))) else (some (([] : List Int), t509)))
/-! ### dropperref06_Make: function 42 -/
def dropperref06_Make.f (k : Nat) (a0_0 : Int) (l0_1 : List (S64)) (l1 : List Int) (a2 : Int) : Option (List Int × Int) := (dropperref06_After.f k a0_0 l0_1 l1 (([a2] : List Int))).bind fun bt519 => (some (bt519.1, bt519.2))
/-! ### dropperref06_Can: function 40 -/
def dropperref06_Can.l0 : Nat → List Int → List Int → Int → Int → List (S64) → Option (List Int × Int)
 | 0, _, _, _, _, _ => none
 | k + 1, x1, x7, x8, x302000, x302001 => if x8 < (x302001.length : Int) then (if 0 ≤ x8 then ((dropperref06_after.f k ((rd_T64 x302001 x8).f0) ((rd_T64 x302001 x8).f1) x1).bind fun bt307 => (if bt307.2 = true then (if x7.length < 17592186044416 then (dropperref06_Can.l0 k x1 (x7 ++ [x8]) (wrap64 (x8 + 1)) x302000 x302001) else (none)) else (dropperref06_Can.l0 k x1 x7 (wrap64 (x8 + 1)) x302000 x302001))) else (none)) else (some (x7, 0))
def dropperref06_Can.f (k : Nat) (a0_0 : Int) (l0_1 : List (S64)) (l1 : List Int) : Option (List Int × Int) := (dropperref06_asked.f k a0_0 l0_1 (([l1] : List (List Int)))).bind fun t305 => (if t305 = 0 then (dropperref06_Can.l0 k l1 ([] : List Int) 0 a0_0 l0_1) else (some (([] : List Int), t305)))
/-! ### key_IsPlay: function 45 -/
def key_IsPlay.f (k : Nat) (a0_0 : Int) (l0_1 : List (S64)) (l1 : List Int) (l2 : List Int) : Option (Bool × Int) := (key_After.f k a0_0 l0_1 l1 l2).bind fun bt576 => (if bt576.2 = 5 then (some (false, 0)) else (some ((bt576.2 == 0), bt576.2)))
/-! ### dropperref06_IsPlay: function 46 -/
def dropperref06_IsPlay.f (k : Nat) (a0_0 : Int) (l0_1 : List (S64)) (l1 : List Int) (l2 : List Int) : Option (Bool × Int) := (dropperref06_After.f k a0_0 l0_1 l1 l2).bind fun bt581 => (if bt581.2 = 5 then (some (false, 0)) else (some ((bt581.2 == 0), bt581.2)))
end Go.Proofs.Ytgdfakmlpdeabaa.XKey
/- The laws of the keys: what is common. -/
namespace Go.Proofs.Ytgdfakmlpdeabaa.Keys
set_option linter.unusedVariables false
set_option linter.unusedSimpArgs false
open Go.RowKit Go.Proofs.Ytgdfakmlpdeabaa.XKey Go.Proofs.YtgdfakmlpdeabaaW.PrintWords Go.Proofs.YtgdfakmlpdeabaaW.PrintLast Go.Proofs.YtgdfakmlpdeabaaW.PrintMore
theorem ev_const {α : Type} {o : Option α} {r : α} (h : o = some r) : Ev (fun _ => o) r := ⟨0, fun _ _ => h⟩
theorem ev_pos {α : Type} {c : Prop} [Decidable c] {a b : Nat → Option α} {r : α} (hc : c) (h : Ev a r) : Ev (fun k => if c then a k else b k) r :=
 Ev.congr (fun k => if_pos hc) h
theorem ev_neg {α : Type} {c : Prop} [Decidable c] {a b : Nat → Option α} {r : α} (hc : ¬ c) (h : Ev b r) : Ev (fun k => if c then a k else b k) r :=
 Ev.congr (fun k => if_neg hc) h
theorem ev_some {α β : Type} {a : α} {f : Nat → α → Option β} {r : β} (h : Ev (fun k => f k a) r) : Ev (fun k => (some a).bind (f k)) r := h
theorem ev_bind1 {α β : Type} {g : Nat → Option α} {f : Nat → α → Option β} {a : α} {r : β} (h : Ev g a) (k : Ev (fun n => f n a) r) : Ev (fun n => (g n).bind (f n)) r := Ev.bind h k
theorem ev_val {α β : Type} {g : Option α} {f : Nat → α → Option β} {a : α} {r : β} (h : g = some a) (k : Ev (fun n => f n a) r) : Ev (fun n => g.bind (f n)) r := by subst h; exact k
theorem wrap_id {x : Int} (h0 : -9223372036854775808 ≤ x) (h1 : x ≤ 9223372036854775807) : wrap64 x = x := by unfold wrap64; omega
theorem wrap_succ {l : Nat} (n : Nat) (h : n < l) (hl : l ≤ 9223372036854775807) : wrap64 ((n : Int) + 1) = ((n + 1 : Nat) : Int) := by rw [wrap_id] <;> omega
theorem rd_at (xs : List Int) (i : Nat) (h : i < xs.length) : rd xs (i : Int) = xs[i] := by simp [rd, List.getD_eq_getElem?_getD, h]
theorem rd_L (xs : List (List Int)) (i : Nat) (h : i < xs.length) : rd_L1 xs (i : Int) = xs[i] := by simp [rd_L1, List.getD_eq_getElem?_getD, h]
theorem rd_S (xs : List S64) (i : Nat) (h : i < xs.length) : rd_T64 xs (i : Int) = xs[i] := by simp [rd_T64, List.getD_eq_getElem?_getD, h]
theorem ev_loop {α β : Type} {l : List α} (hl : l.length ≤ 9223372036854775807) {F : Nat → Int → Option β} (g : List α → β)
  (hend : Ev (fun k => F k (l.length : Int)) (g []))
  (hstep : ∀ i (h : i < l.length), wrap64 ((i : Int) + 1) = ((i + 1 : Nat) : Int) → Ev (fun k => F k ((i + 1 : Nat) : Int)) (g (l.drop (i + 1))) → Ev (fun k => F k (i : Int)) (g (l[i] :: l.drop (i + 1)))) : Ev (fun k => F k 0) (g l) := by
 have H : ∀ (d i : Nat), i + d = l.length → Ev (fun k => F k (i : Int)) (g (l.drop i)) := by
  intro d
  induction d with
  | zero =>
   intro i hi
   have e : i = l.length := by omega
   subst e
   rw [List.drop_length]
   exact hend
  | succ d ih =>
   intro i hi
   rw [List.drop_eq_getElem_cons (by omega)]
   exact hstep i (by omega) (wrap_succ i (by omega) hl) (ih (i + 1) (by omega))
 exact H l.length 0 (by omega)
/-! ### lists of numbers -/
theorem same_refl (l : List Int) (hl : l.length ≤ 9223372036854775807) : Ev (fun k => dropperlaw06_SameInts.f k l l) true := by
 unfold dropperlaw06_SameInts.f
 refine ev_pos rfl ?_
 refine ev_loop (l := l) hl (F := fun k i => dropperlaw06_SameInts.l0 k l l i) (fun _ => true) ?_ ?_
 ·
  refine Ev.step (fun k => by rw [dropperlaw06_SameInts.l0]) (ev_neg (by omega) ?_); exact Ev.now _
 ·
  intro i h hw ih
  refine Ev.step (fun k => by rw [dropperlaw06_SameInts.l0]) (ev_pos (by omega) (ev_pos (by omega) (ev_pos (by omega) (ev_pos rfl ?_))))
  rw [hw]; exact ih
theorem large_ev (n : Int) (ts : List S64) (ls : List (List Int)) (h1 : ts.length ≤ 9223372036854775807) (h2 : ls.length ≤ 9223372036854775807) : ∃ b, Ev (fun k => dropperlaw06_Large.f k n ts ls) b := by
 unfold dropperlaw06_Large.f
 have H2 : Ev (fun k => dropperlaw06_Large.l1 k ls 0 n ts) (ls.any (fun l => decide ((l.length : Int) > 20)) || decide ((ts.length : Int) > 20)) := by
  refine ev_loop (l := ls) h2 (F := fun k i => dropperlaw06_Large.l1 k ls i n ts) (fun r => r.any (fun l => decide ((l.length : Int) > 20)) || decide ((ts.length : Int) > 20)) ?_ ?_
  ·
   refine Ev.step (fun k => by rw [dropperlaw06_Large.l1]) (ev_neg (by omega) ?_); exact Ev.now _
  ·
   intro i h hw ih
   refine Ev.step (fun k => by rw [dropperlaw06_Large.l1]) (ev_pos (by omega) (ev_pos (by omega) ?_))
   rw [rd_L ls i h, List.any_cons]
   by_cases hc : (ls[i].length : Int) > 20
   ·
    rw [decide_eq_true hc]; exact ev_pos hc (Ev.now _)
   ·
    rw [decide_eq_false hc, Bool.false_or]; refine ev_neg hc ?_; rw [hw]; exact ih
 refine ⟨_, ev_loop (l := ts) h1 (F := fun k i => dropperlaw06_Large.l0 k ls i n ts) (fun r => r.any (fun t => decide ((t.f0.length : Int) > 20) || decide ((t.f1.length : Int) > 20)) || (ls.any (fun l => decide ((l.length : Int) > 20)) || decide ((ts.length : Int) > 20))) ?_ ?_⟩
 ·
  refine Ev.step (fun k => by rw [dropperlaw06_Large.l0]) (ev_neg (by omega) ?_)
  exact H2
 ·
  intro i h hw ih
  refine Ev.step (fun k => by rw [dropperlaw06_Large.l0]) (ev_pos (by omega) (ev_pos (by omega) ?_))
  rw [rd_S ts i h, List.any_cons]
  by_cases hc : (ts[i].f0.length : Int) > 20
  ·
   rw [decide_eq_true hc]; exact ev_pos hc (Ev.now _)
  ·
   rw [decide_eq_false hc, Bool.false_or]; refine ev_neg hc ?_
   by_cases hd : (ts[i].f1.length : Int) > 20
   ·
    rw [decide_eq_true hd]; exact ev_pos hd (Ev.now _)
   ·
    rw [decide_eq_false hd, Bool.false_or]; refine ev_neg hd ?_; rw [hw]; exact ih
def okL (n lo hi : Int) (l : List Int) : Bool := decide ((l.length : Int) = n) && !(l.any (key_isList.bad lo hi))
theorem from_val (a b c : Int) : dropperref06_from.f a b c = some (decide (a ≤ b) && decide (b ≤ c)) := by
 unfold dropperref06_from.f
 by_cases h : a ≤ b
 ·
  rw [if_pos h, decide_eq_true h, Bool.true_and]
 ·
  rw [if_neg h, decide_eq_false h, Bool.false_and]
theorem rlist_ev (l : List Int) (n lo hi : Int) (hl : l.length ≤ 9223372036854775807) : Ev (fun k => dropperref06_list.f k l n lo hi) (okL n lo hi l) := by
 unfold dropperref06_list.f okL
 refine ev_loop (l := l) hl (F := fun k i => dropperref06_list.l0 k l n lo hi i) (fun r => decide ((l.length : Int) = n) && !(r.any (key_isList.bad lo hi))) ?_ ?_
 ·
  refine Ev.step (fun k => by rw [dropperref06_list.l0]) (ev_neg (by omega) ?_)
  refine ev_const (congrArg some ?_)
  simp only [List.any_nil, Bool.not_false, Bool.and_true]
  by_cases h : (l.length : Int) = n
  ·
   rw [decide_eq_true h]; simp [h]
  ·
   rw [decide_eq_false h]; simpa using h
 ·
  intro i h hw ih
  refine Ev.step (fun k => by rw [dropperref06_list.l0]) (ev_pos (by omega) (ev_pos (by omega) (ev_val (from_val _ _ _) ?_)))
  rw [rd_at l i h, List.any_cons, key_isList.bad]
  cases hb : (decide (lo ≤ l[i]) && decide (l[i] ≤ hi)) with
  | true => refine ev_pos rfl ?_; rw [Bool.not_true, Bool.false_or, hw]; exact ih
  | false => refine ev_neg (by decide) ?_; rw [Bool.not_false, Bool.true_or, Bool.not_true, Bool.and_false]; exact Ev.now _
theorem okL_iff (n lo hi : Int) (l : List Int) : okL n lo hi l = true ↔ (l.length : Int) = n ∧ ∀ x ∈ l, lo ≤ x ∧ x ≤ hi := by
 simp [okL, key_isList.bad]
/-! ### boards -/
def okT (n : Int) (t : S64) : Bool := okL n 0 3 t.f0 && okL n 0 3 t.f1
def okB (n : Int) (ts : List S64) : Bool := ((decide (1 ≤ n) && decide (n ≤ 6)) && decide ((ts.length : Int) ≤ 8)) && ts.all (okT n)
theorem bad_eq (n : Int) (t : S64) : key_Valid.bad n t = !(okT n t) := by simp [key_Valid.bad, okT, okL]
theorem Valid_val (n : Int) (ts : List S64) : key_Valid.f n ts = some (okB n ts) := by
 unfold key_Valid.f okB
 rw [show key_Valid.bad n = fun t => !(okT n t) from funext (bad_eq n)]
 simp [List.all_eq_not_any_not]
def Fits (ts : List S64) : Prop := ts.length ≤ 9223372036854775807 ∧ ∀ t ∈ ts, t.f0.length ≤ 9223372036854775807 ∧ t.f1.length ≤ 9223372036854775807
theorem rValid_ev (n : Int) (ts : List S64) (hf : Fits ts) : Ev (fun k => dropperref06_Valid.f k n ts) (okB n ts) := by
 unfold dropperref06_Valid.f okB
 refine ev_val (from_val _ _ _) ?_
 have HJ : Ev (fun k => dropperref06_Valid.j0 k true n ts) false := Ev.step (fun k => by rw [dropperref06_Valid.j0]) (ev_pos rfl (Ev.now _))
 cases hb : (decide (1 ≤ n) && decide (n ≤ 6)) with
 | false => refine ev_neg (by decide) ?_; simpa using HJ
 | true =>
  refine ev_pos rfl ?_
  by_cases hl : (ts.length : Int) ≤ 8
  ·
   rw [decide_eq_true hl, decide_eq_false (show ¬ (ts.length : Int) > 8 by omega)]
   refine Ev.step (fun k => by rw [dropperref06_Valid.j0]) (ev_neg (by decide) ?_)
   simp only [Bool.true_and]
   refine ev_loop (l := ts) hf.1 (F := fun k i => dropperref06_Valid.l0 k i n ts) (fun r => r.all (okT n)) ?_ ?_
   ·
    refine Ev.step (fun k => by rw [dropperref06_Valid.l0]) (ev_neg (by omega) ?_); exact Ev.now _
   ·
    intro i h hw ih
    have hfi := hf.2 ts[i] (List.getElem_mem h)
    refine Ev.step (fun k => by rw [dropperref06_Valid.l0]) (ev_pos (by omega) (ev_pos (by omega) ?_))
    rw [rd_S ts i h, List.all_cons]
    refine ev_bind1 (rlist_ev _ _ _ _ hfi.1) ?_
    cases h0 : okL n 0 3 ts[i].f0 with
    | false => refine ev_neg (by decide) ?_; rw [okT, h0]; exact Ev.now _
    | true =>
     refine ev_pos rfl (ev_bind1 (rlist_ev _ _ _ _ hfi.2) ?_)
     cases h1 : okL n 0 3 ts[i].f1 with
     | false => refine ev_neg (by decide) ?_; rw [okT, h0, h1]; exact Ev.now _
     | true => refine ev_pos rfl ?_; rw [okT, h0, h1, hw]; exact ih
  ·
   rw [decide_eq_false hl, decide_eq_true (show (ts.length : Int) > 8 by omega)]
   simpa using HJ
end Go.Proofs.Ytgdfakmlpdeabaa.Keys

/- Moves: program and reference reckon alike. -/
namespace Go.Proofs.Ytgdfakmlpdeabaa.Keys
set_option linter.unusedVariables false
set_option linter.unusedSimpArgs false
open Go.RowKit Go.Proofs.Ytgdfakmlpdeabaa.XKey Go.Proofs.YtgdfakmlpdeabaaW.PrintWords Go.Proofs.YtgdfakmlpdeabaaW.PrintLast Go.Proofs.YtgdfakmlpdeabaaW.PrintMore
def asks (n : Int) (ts : List S64) (ls : List (List Int)) : Int := if okB n ts = true then (if ls.all (okL n 0 100) = true then 0 else 61) else 60
theorem open_val (n : Int) (ts : List S64) (ls : List (List Int)) : key_open.f n ts ls = some (asks n ts ls) := by
 unfold key_open.f asks
 rw [Valid_val, Option.bind_some]
 have h : ls.any (key_open.bad n) = !(ls.all (okL n 0 100)) := by
  rw [show key_open.bad n = fun l => !(okL n 0 100 l) from rfl]
  simp [List.all_eq_not_any_not]
 cases okB n ts with
 | false => rw [if_neg (by decide), if_neg (by decide)]
 | true =>
  rw [if_pos rfl, if_pos rfl, h]
  cases ls.all (okL n 0 100) <;> rfl
theorem Keys_ev (n : Int) (ts : List S64) (l : List Int) (hl : l.length ≤ 9223372036854775807) : Ev (fun k => dropperref06_Keys.f k n ts l) (okL n 0 100 l) := by
 unfold dropperref06_Keys.f
 exact ev_bind1 (rlist_ev l n 0 100 hl) (Ev.now _)
theorem asked_ev (n : Int) (ts : List S64) (ls : List (List Int)) (hf : Fits ts) (h1 : ls.length ≤ 9223372036854775807) (h2 : ∀ l ∈ ls, l.length ≤ 9223372036854775807) : Ev (fun k => dropperref06_asked.f k n ts ls) (asks n ts ls) := by
 unfold dropperref06_asked.f asks
 refine ev_bind1 (rValid_ev n ts hf) ?_
 cases okB n ts with
 | false => exact ev_neg (by decide) (Ev.now _)
 | true =>
  refine ev_pos rfl ?_
  rw [if_pos rfl]
  refine ev_loop (l := ls) h1 (F := fun k i => dropperref06_asked.l0 k ls i n ts) (fun r => if r.all (okL n 0 100) = true then 0 else 61) ?_ ?_
  ·
   refine Ev.step (fun k => by rw [dropperref06_asked.l0]) (ev_neg (by omega) ?_); exact Ev.now _
  ·
   intro i h hw ih
   refine Ev.step (fun k => by rw [dropperref06_asked.l0]) (ev_pos (by omega) (ev_pos (by omega) ?_))
   rw [rd_L ls i h, List.all_cons]
   refine ev_bind1 (Keys_ev n ts _ (h2 _ (List.getElem_mem h))) ?_
   cases okL n 0 100 ls[i] with
   | false => exact ev_neg (by decide) (Ev.now _)
   | true => refine ev_pos rfl ?_; rw [Bool.true_and, hw]; exact ih
def mv : List Int → List Int → List Int → Option (List Int)
 | x :: xs, n :: ns, g :: gs => if x < n ∨ 100 < x - n + g then none else (mv xs ns gs).map fun r => (x - n + g) :: r
 | _, _, _ => some []
theorem mv_len : ∀ {xs ns gs r : List Int}, mv xs ns gs = some r → xs.length = ns.length → xs.length = gs.length → r.length = xs.length
 | [], [], [], r, h, _, _ => by cases h; rfl
 | x :: xs, n :: ns, g :: gs, r, h, h1, h2 => by
  rw [mv] at h
  split at h
  ·
   cases h
  ·
   obtain ⟨q, e, rfl⟩ := Option.map_eq_some_iff.1 h
   have := mv_len e (by simpa using h1) (by simpa using h2)
   simp [this]
def In (lo hi : Int) (l : List Int) : Prop := ∀ x ∈ l, lo ≤ x ∧ x ≤ hi
theorem mv_in : ∀ {xs ns gs r : List Int}, mv xs ns gs = some r → In 0 100 xs → In 0 3 ns → In 0 3 gs → In 0 100 r
 | x :: xs, n :: ns, g :: gs, r, h, h1, h2, h3 => by
  rw [mv] at h
  split at h
  ·
   cases h
  ·
   rename_i hc
   obtain ⟨q, e, rfl⟩ := Option.map_eq_some_iff.1 h
   have hq := mv_in e (fun y hy => h1 y (List.mem_cons_of_mem _ hy)) (fun y hy => h2 y (List.mem_cons_of_mem _ hy)) (fun y hy => h3 y (List.mem_cons_of_mem _ hy))
   have := h1 x (List.mem_cons_self ..); have := h2 n (List.mem_cons_self ..); have := h3 g (List.mem_cons_self ..)
   intro y hy
   rcases List.mem_cons.1 hy with rfl | hy
   ·
    omega
   ·
    exact hq y hy
 | [], _, _, r, h, _, _, _ => by simp [mv] at h; subst h; intro y hy; cases hy
 | _ :: _, [], _, r, h, _, _, _ => by simp [mv] at h; subst h; intro y hy; cases hy
 | _ :: _, _ :: _, [], r, h, _, _, _ => by simp [mv] at h; subst h; intro y hy; cases hy
theorem mv_back : ∀ {xs ns gs r : List Int}, mv xs ns gs = some r → xs.length = ns.length → xs.length = gs.length → In 0 100 xs → In 0 3 ns → In 0 3 gs → mv r gs ns = some xs
 | [], [], [], r, h, _, _, _, _, _ => by cases h; rfl
 | x :: xs, n :: ns, g :: gs, r, h, l1, l2, h1, h2, h3 => by
  rw [mv] at h
  split at h
  ·
   cases h
  ·
   rename_i hc
   obtain ⟨q, e, rfl⟩ := Option.map_eq_some_iff.1 h
   have hq := mv_back e (by simpa using l1) (by simpa using l2) (fun y hy => h1 y (List.mem_cons_of_mem _ hy)) (fun y hy => h2 y (List.mem_cons_of_mem _ hy)) (fun y hy => h3 y (List.mem_cons_of_mem _ hy))
   have := h1 x (List.mem_cons_self ..); have := h2 n (List.mem_cons_self ..); have := h3 g (List.mem_cons_self ..)
   rw [mv, if_neg (by omega), hq]
   simp only [Option.map_some]
   congr 2
   omega
theorem made_go : ∀ {ns xs p z g : List Int}, xs.length = ns.length → xs.length = (g.drop p.length).length → p.length + ns.length ≤ 6 → In 0 100 xs → In 0 3 ns → In 0 3 (g.drop p.length) →
  key_keys_made.go ns (p.length : Int) g (p ++ xs ++ z) = some (match mv xs ns (g.drop p.length) with | none => ([0, 0, 0, 0, 0, 0], false) | some r => (p ++ r ++ z, true))
 | [], [], p, z, g, _, hg, _, _, _, _ => by
  have : g.drop p.length = [] := List.eq_nil_of_length_eq_zero hg.symm
  rw [key_keys_made.go, mv]
  simp
 | n :: ns, x :: xs, p, z, g, h1, h2, h6, hx, hn, hg => by
  have hlt : p.length < g.length := by simp at h2; omega
  have hd : g.drop p.length = g[p.length] :: g.drop (p.length + 1) := List.drop_eq_getElem_cons hlt
  have e1 : rd (p ++ (x :: xs) ++ z) (p.length : Int) = x := by rw [rd_at _ _ (by simp)]; simp [List.getElem_append]
  have e2 : rd g (p.length : Int) = g[p.length] := rd_at _ _ hlt
  rw [hd] at hg h2 ⊢
  have b1 := hx x (List.mem_cons_self ..); have b2 := hn n (List.mem_cons_self ..); have b3 := hg g[p.length] (List.mem_cons_self ..)
  rw [key_keys_made.go, if_pos (by simp at h6; omega), e1, e2, mv]
  have w1 : wrap64 (wrap64 (x - n) + g[p.length]) = x - n + g[p.length] := by rw [wrap_id (x := x - n) (by omega) (by omega), wrap_id (by omega) (by omega)]
  have w2 : wrap64 (x + wrap64 (g[p.length] - n)) = x - n + g[p.length] := by rw [wrap_id (x := g[p.length] - n) (by omega) (by omega), wrap_id (by omega) (by omega)]; omega
  rw [w2]
  have hbad : key_keys_made.bad x n g[p.length] ↔ (x < n ∨ 100 < x - n + g[p.length]) := by
   show (x < n ∨ 100 < wrap64 (wrap64 (x - n) + g[p.length])) ↔ _
   rw [w1]
  by_cases hc : x < n ∨ 100 < x - n + g[p.length]
  ·
   rw [if_pos (hbad.2 hc), if_pos hc]
  ·
   rw [if_neg (fun h => hc (hbad.1 h)), if_neg hc]
   have es : (p ++ (x :: xs) ++ z).set (p.length : Int).toNat (x - n + g[p.length]) = (p ++ [x - n + g[p.length]]) ++ xs ++ z := by simp
   have ep : ((p.length : Int) + 1) = ((p ++ [x - n + g[p.length]]).length : Int) := by simp
   have hl : (p ++ [x - n + g[p.length]]).length = p.length + 1 := by simp
   rw [es, ep]
   have hr := made_go (ns := ns) (xs := xs) (p := p ++ [x - n + g[p.length]]) (z := z) (g := g) (by simpa using h1) (by rw [hl]; simp at h2 ⊢; omega) (by rw [hl]; simp at h6; omega) (fun y hy => hx y (List.mem_cons_of_mem _ hy)) (fun y hy => hn y (List.mem_cons_of_mem _ hy)) (by rw [hl]; exact fun y hy => hg y (List.mem_cons_of_mem _ hy))
   rw [hr, hl]
   cases mv xs ns (g.drop (p.length + 1)) with
   | none => rfl
   | some r => simp
theorem six_app : ∀ (xs : List Int), xs.length ≤ 6 → six xs = xs ++ List.replicate (6 - xs.length) 0
 | [], _ => rfl
 | [_], _ => rfl
 | [_, _], _ => rfl
 | [_, _, _], _ => rfl
 | [_, _, _, _], _ => rfl
 | [_, _, _, _, _], _ => rfl
 | [_, _, _, _, _, _], _ => rfl
 | _ :: _ :: _ :: _ :: _ :: _ :: _ :: _, h => by simp at h
theorem six_rd (xs : List Int) (h : xs.length ≤ 6) (i : Int) : rd (xs ++ List.replicate (6 - xs.length) 0) i = rd xs i := by
 simp only [rd, List.getD_eq_getElem?_getD, List.getElem?_append]
 split
 ·
  rfl
 ·
  rename_i hc
  rw [List.getElem?_eq_none (by omega : xs.length ≤ i.toNat)]
  rw [List.getElem?_replicate]
  split <;> rfl
theorem made_val (xs ns gs : List Int) (h1 : xs.length = ns.length) (h2 : xs.length = gs.length) (h6 : xs.length ≤ 6) (hx : In 0 100 xs) (hn : In 0 3 ns) (hg : In 0 3 gs) :
  key_keys_made.f (rd xs 0) (rd xs 1) (rd xs 2) (rd xs 3) (rd xs 4) (rd xs 5) ns gs = some (match mv xs ns gs with | none => (0, 0, 0, 0, 0, 0, false) | some r => (rd r 0, rd r 1, rd r 2, rd r 3, rd r 4, rd r 5, true)) := by
 unfold key_keys_made.f
 have e := six_app xs h6
 rw [six] at e
 rw [e]
 have h := made_go (ns := ns) (xs := xs) (p := []) (z := List.replicate (6 - xs.length) 0) (g := gs) h1 (by simpa using h2) (by simpa using (h1 ▸ h6)) hx hn (by simpa using hg)
 simp only [List.nil_append, List.length_nil, List.drop_zero, Int.ofNat_zero] at h
 rw [h]
 cases hm : mv xs ns gs with
 | none => rfl
 | some r =>
  have hl := mv_len hm h1 h2
  simp only [Option.map_some]
  rw [← hl]
  simp only [six_rd r (by omega)]
theorem list_val (xs : List Int) (n : Int) (h : (xs.length : Int) = n) (h6 : xs.length ≤ 6) : key_keys_list.f (rd xs 0) (rd xs 1) (rd xs 2) (rd xs 3) (rd xs 4) (rd xs 5) n = some xs := by
 unfold key_keys_list.f
 have e := six_app xs h6
 rw [six] at e
 rw [if_pos (by omega), e, ← h]
 simp
theorem after_ev (xs ns gs : List Int) (h1 : xs.length = ns.length) (h2 : xs.length = gs.length) (h6 : xs.length ≤ 6) (hx : In 0 100 xs) (hn : In 0 3 ns) (hg : In 0 3 gs) :
  Ev (fun k => dropperref06_after.f k ns gs xs) (match mv xs ns gs with | none => ([], false) | some r => (r, true)) := by
 unfold dropperref06_after.f
 have H : ∀ (d i : Nat) (acc : List Int), i + d = xs.length → acc.length ≤ i → Ev (fun k => dropperref06_after.l0 k xs acc (i : Int) ns gs) (match mv (xs.drop i) (ns.drop i) (gs.drop i) with | none => ([], false) | some r => (acc ++ r, true)) := by
  intro d
  induction d with
  | zero =>
   intro i acc hi ha
   rw [List.drop_eq_nil_of_le (by omega : xs.length ≤ i), mv]
   ·
    refine Ev.step (fun k => by rw [dropperref06_after.l0]) (ev_neg (by omega) ?_)
    simp only [List.append_nil]; exact Ev.now _
   ·
    intro _ _ _ _ _ _ h; cases h
  | succ d ih =>
   intro i acc hi ha
   have hx0 := hx xs[i] (List.getElem_mem _); have hn0 := hn ns[i] (List.getElem_mem _); have hg0 := hg gs[i] (List.getElem_mem _)
   refine Ev.step (fun k => by rw [dropperref06_after.l0]) (ev_pos (by omega) (ev_pos (by omega) (ev_pos (by omega) ?_)))
   rw [rd_at xs i (by omega), rd_at ns i (by omega), rd_at gs i (by omega)]
   rw [List.drop_eq_getElem_cons (by omega : i < xs.length), List.drop_eq_getElem_cons (by omega : i < ns.length), List.drop_eq_getElem_cons (by omega : i < gs.length), mv]
   rw [wrap_id (x := xs[i] - ns[i]) (by omega) (by omega), wrap_id (x := xs[i] - ns[i] + gs[i]) (by omega) (by omega)]
   by_cases c1 : xs[i] < ns[i]
   ·
    rw [if_pos (Or.inl c1)]; exact ev_pos (by omega) (Ev.now _)
   refine ev_neg (by omega) (ev_pos (by omega) ?_)
   by_cases c2 : 100 < xs[i] - ns[i] + gs[i]
   ·
    rw [if_pos (Or.inr c2)]; exact ev_pos (by omega) (Ev.now _)
   rw [if_neg (by omega)]
   refine ev_neg (by omega) (ev_pos (by omega) ?_)
   rw [wrap_succ (l := xs.length) i (by omega) (by omega)]
   have := ih (i + 1) (acc ++ [xs[i] - ns[i] + gs[i]]) (by omega) (by simp; omega)
   cases hm : mv (xs.drop (i + 1)) (ns.drop (i + 1)) (gs.drop (i + 1)) with
   | none => rw [hm] at this; exact this
   | some r => rw [hm] at this; simpa using this
 have := H xs.length 0 [] (by omega) (by simp)
 simpa using this
end Go.Proofs.Ytgdfakmlpdeabaa.Keys

/- Plays: program and reference reckon alike. -/
namespace Go.Proofs.Ytgdfakmlpdeabaa.Keys
set_option linter.unusedVariables false
set_option linter.unusedSimpArgs false
open Go.RowKit Go.Proofs.Ytgdfakmlpdeabaa.XKey Go.Proofs.YtgdfakmlpdeabaaW.PrintWords Go.Proofs.YtgdfakmlpdeabaaW.PrintLast Go.Proofs.YtgdfakmlpdeabaaW.PrintMore
theorem okT_iff (n : Int) (t : S64) : okT n t = true ↔ ((t.f0.length : Int) = n ∧ In 0 3 t.f0) ∧ ((t.f1.length : Int) = n ∧ In 0 3 t.f1) := by
 rw [okT, Bool.and_eq_true, okL_iff, okL_iff]; exact Iff.rfl
theorem okB_iff (n : Int) (ts : List S64) : okB n ts = true ↔ (1 ≤ n ∧ n ≤ 6) ∧ ts.length ≤ 8 ∧ ∀ t ∈ ts, okT n t = true := by
 simp only [okB, Bool.and_eq_true, decide_eq_true_eq, List.all_eq_true]
 constructor
 ·
  rintro ⟨⟨⟨a, b⟩, c⟩, d⟩; exact ⟨⟨a, b⟩, by omega, d⟩
 ·
  rintro ⟨⟨a, b⟩, c, d⟩; exact ⟨⟨⟨a, b⟩, by omega⟩, d⟩
theorem asks_zero {n : Int} {ts : List S64} {ls : List (List Int)} (h : asks n ts ls = 0) : okB n ts = true ∧ ∀ l ∈ ls, okL n 0 100 l = true := by
 unfold asks at h
 split at h
 ·
  split at h
  ·
   rename_i h1 h2; exact ⟨h1, List.all_eq_true.1 h2⟩
  ·
   omega
 ·
  omega
theorem asks_two {n : Int} {ts : List S64} {ls : List (List Int)} : asks n ts ls = 0 ∨ asks n ts ls = 60 ∨ asks n ts ls = 61 := by
 unfold asks; split
 ·
  split <;> simp
 ·
  simp
structure St (n : Int) (l : List Int) : Prop where
 len : (l.length : Int) = n
 rng : In 0 100 l
theorem St.of {n : Int} {l : List Int} (h : okL n 0 100 l = true) : St n l := ⟨((okL_iff _ _ _ _).1 h).1, ((okL_iff _ _ _ _).1 h).2⟩
theorem St.mk' {n : Int} {l : List Int} (h : St n l) : okL n 0 100 l = true := (okL_iff _ _ _ _).2 ⟨h.len, h.rng⟩
theorem St.mv {n : Int} {l r : List Int} {t : S64} (h : St n l) (ht : okT n t = true) (e : mv l t.f0 t.f1 = some r) : St n r := by
 obtain ⟨⟨a, b⟩, c, d⟩ := (okT_iff n t).1 ht
 have h1 := h.len
 refine ⟨?_, mv_in e h.rng b d⟩
 rw [mv_len e (by omega) (by omega)]; exact h.len
theorem made_st {n : Int} {l : List Int} {t : S64} (hn : n ≤ 6) (h : St n l) (ht : okT n t = true) :
  key_keys_made.f (rd l 0) (rd l 1) (rd l 2) (rd l 3) (rd l 4) (rd l 5) t.f0 t.f1 = some (match mv l t.f0 t.f1 with | none => (0, 0, 0, 0, 0, 0, false) | some r => (rd r 0, rd r 1, rd r 2, rd r 3, rd r 4, rd r 5, true)) := by
 obtain ⟨⟨a, b⟩, c, d⟩ := (okT_iff n t).1 ht
 have h1 := h.len
 exact made_val l t.f0 t.f1 (by omega) (by omega) (by omega) h.rng b d
theorem after_st {n : Int} {l : List Int} {t : S64} (hn : n ≤ 6) (h : St n l) (ht : okT n t = true) :
  Ev (fun k => dropperref06_after.f k t.f0 t.f1 l) (match mv l t.f0 t.f1 with | none => ([], false) | some r => (r, true)) := by
 obtain ⟨⟨a, b⟩, c, d⟩ := (okT_iff n t).1 ht
 have h1 := h.len
 exact after_ev l t.f0 t.f1 (by omega) (by omega) (by omega) h.rng b d
theorem list_st {n : Int} {l : List Int} (hn : n ≤ 6) (h : St n l) : key_keys_list.f (rd l 0) (rd l 1) (rd l 2) (rd l 3) (rd l 4) (rd l 5) n = some l := list_val l n h.len (by have := h.len; omega)
def plays (ts : List S64) : List Int → List Int → Option (List Int)
 | x, [] => some x
 | x, a :: ms => (mv x (rd_T64 ts a).f0 (rd_T64 ts a).f1).bind fun y => plays ts y ms
def playsS (ts : List S64) (l ms : List Int) : List Int × Int := match plays ts l ms with | none => ([], 5) | some r => (r, 0)
def AfterS (n : Int) (ts : List S64) (l ms : List Int) : List Int × Int :=
 if asks n ts [l] = 0 then (if (ms.length : Int) > 1000 then ([], 2) else if okL (ms.length : Int) 0 (wrap64 ((ts.length : Int) - 1)) ms = true then playsS ts l ms else ([], 2)) else ([], asks n ts [l])
theorem isList_val (l : List Int) (n lo hi : Int) : key_isList.f l n lo hi = some (okL n lo hi l) := rfl
def Names (ts : List S64) (ms : List Int) : Prop := ∀ a ∈ ms, 0 ≤ a ∧ a < (ts.length : Int)
theorem names_of {ts : List S64} {ms : List Int} (h8 : ts.length ≤ 8) (h : okL (ms.length : Int) 0 (wrap64 ((ts.length : Int) - 1)) ms = true) : Names ts ms := by
 have := ((okL_iff _ _ _ _).1 h).2
 rw [wrap_id (by omega) (by omega)] at this
 intro a ha
 have := this a ha
 omega
theorem of_names {ts : List S64} {ms : List Int} (h8 : ts.length ≤ 8) (h : Names ts ms) : okL (ms.length : Int) 0 (wrap64 ((ts.length : Int) - 1)) ms = true := by
 rw [okL_iff, wrap_id (by omega) (by omega)]
 refine ⟨rfl, fun a ha => ?_⟩
 have := h a ha
 omega
theorem okT_at {n : Int} {ts : List S64} (hts : ∀ t ∈ ts, okT n t = true) {a : Int} (h0 : 0 ≤ a) (h1 : a < (ts.length : Int)) : okT n (rd_T64 ts a) = true := by
 obtain ⟨i, rfl⟩ := Int.eq_ofNat_of_zero_le h0
 rw [rd_S ts i (by omega)]
 exact hts _ (List.getElem_mem _)
theorem kplay_ev {n : Int} {ts : List S64} (hn : n ≤ 6) (hts : ∀ t ∈ ts, okT n t = true) (ms : List Int) (hN : Names ts ms) (hl : ms.length ≤ 1000) :
  ∀ (d i : Nat) (l : List Int), i + d = ms.length → St n l → Ev (fun k => key_After.l0 k ms (ms.length : Int) (i : Int) n ts (rd l 0) (rd l 1) (rd l 2) (rd l 3) (rd l 4) (rd l 5)) (playsS ts l (ms.drop i)) := by
 intro d
 induction d with
 | zero =>
  intro i l hi h
  rw [List.drop_eq_nil_of_le (by omega : ms.length ≤ i)]
  refine Ev.step (fun k => by rw [key_After.l0]) (ev_neg (by omega) (ev_val (list_st hn h) ?_))
  exact Ev.now _
 | succ d ih =>
  intro i l hi h
  have hlt : i < ms.length := by omega
  have ha := hN ms[i] (List.getElem_mem hlt)
  have ht := okT_at hts ha.1 ha.2
  rw [List.drop_eq_getElem_cons hlt]
  refine Ev.step (fun k => by rw [key_After.l0]) (ev_pos (by omega) (ev_pos (by omega) (ev_pos (by omega) ?_)))
  rw [rd_at ms i hlt]
  refine ev_pos ha.1 (ev_pos ha.2 (ev_val (made_st hn h ht) ?_))
  unfold playsS
  rw [plays]
  cases hm : mv l (rd_T64 ts ms[i]).f0 (rd_T64 ts ms[i]).f1 with
  | none => exact ev_neg (by decide) (Ev.now _)
  | some r =>
   refine ev_pos rfl ?_
   rw [wrap_succ (l := ms.length) i hlt (by omega)]
   exact ih (i + 1) r (by omega) (h.mv ht hm)
theorem After_ev (n : Int) (ts : List S64) (l ms : List Int) : Ev (fun k => key_After.f k n ts l ms) (AfterS n ts l ms) := by
 unfold key_After.f AfterS
 refine ev_val (open_val n ts [l]) ?_
 by_cases h0 : asks n ts [l] = 0
 ·
  rw [if_pos h0]
  refine ev_pos h0 ?_
  by_cases h1 : (ms.length : Int) > 1000
  ·
   rw [if_pos h1]; exact ev_pos h1 (Ev.now _)
  rw [if_neg h1]
  refine ev_neg h1 (ev_val (isList_val _ _ _ _) ?_)
  by_cases h2 : okL (ms.length : Int) 0 (wrap64 ((ts.length : Int) - 1)) ms = true
  ·
   rw [if_pos h2]
   refine ev_pos h2 (ev_val rfl ?_)
   obtain ⟨hb, hls⟩ := asks_zero h0
   obtain ⟨⟨b1, b2⟩, b3, b4⟩ := (okB_iff n ts).1 hb
   have := kplay_ev b2 b4 ms (names_of b3 h2) (by omega) ms.length 0 l (by omega) (St.of (hls l (by simp)))
   rw [List.drop_zero] at this
   exact this
  ·
   rw [if_neg h2]; exact ev_neg h2 (Ev.now _)
 ·
  rw [if_neg h0]; exact ev_neg h0 (Ev.now _)
theorem rplay_ev {n : Int} {ts : List S64} (hn : n ≤ 6) (hts : ∀ t ∈ ts, okT n t = true) (ms : List Int) (hN : Names ts ms) (hl : ms.length ≤ 1000) :
  ∀ (d i : Nat) (l : List Int), i + d = ms.length → St n l → Ev (fun k => dropperref06_play.l0 k ms l (i : Int) n ts) (match plays ts l (ms.drop i) with | none => ([], true, false) | some r => (r, true, true)) := by
 intro d
 induction d with
 | zero =>
  intro i l hi h
  rw [List.drop_eq_nil_of_le (by omega : ms.length ≤ i)]
  refine Ev.step (fun k => by rw [dropperref06_play.l0]) (ev_neg (by omega) ?_)
  exact Ev.now _
 | succ d ih =>
  intro i l hi h
  have hlt : i < ms.length := by omega
  have ha := hN ms[i] (List.getElem_mem hlt)
  have ht := okT_at hts ha.1 ha.2
  rw [List.drop_eq_getElem_cons hlt]
  refine Ev.step (fun k => by rw [dropperref06_play.l0]) (ev_pos (by omega) (ev_pos (by omega) ?_))
  rw [rd_at ms i hlt]
  refine ev_pos ha.1 (ev_pos ha.2 (ev_bind1 (after_st hn h ht) ?_))
  rw [plays]
  cases hm : mv l (rd_T64 ts ms[i]).f0 (rd_T64 ts ms[i]).f1 with
  | none => exact ev_neg (by decide) (Ev.now _)
  | some r =>
   refine ev_pos rfl ?_
   rw [wrap_succ (l := ms.length) i hlt (by omega)]
   exact ih (i + 1) r (by omega) (h.mv ht hm)
theorem rAfter_ev (n : Int) (ts : List S64) (l ms : List Int) (hf : Fits ts) (hl : l.length ≤ 9223372036854775807) (ha : ms.length ≤ 9223372036854775807) : Ev (fun k => dropperref06_After.f k n ts l ms) (AfterS n ts l ms) := by
 unfold dropperref06_After.f AfterS
 refine ev_bind1 (asked_ev n ts [l] hf (by simp) (by simpa using hl)) ?_
 by_cases h0 : asks n ts [l] = 0
 ·
  rw [if_pos h0]
  obtain ⟨hb, hls⟩ := asks_zero h0
  obtain ⟨⟨b1, b2⟩, b3, b4⟩ := (okB_iff n ts).1 hb
  have hst := St.of (hls l (by simp))
  have HJ : Ev (fun k => dropperref06_play.j0 k l ms true n ts) ([], false, false) := Ev.step (fun k => by rw [dropperref06_play.j0]) (ev_pos rfl (Ev.now _))
  refine ev_pos h0 ?_
  unfold dropperref06_play.f
  by_cases h1 : (ms.length : Int) > 1000
  ·
   rw [if_pos h1]
   refine ev_bind1 (a := ([], false, false)) (ev_pos h1 HJ) ?_
   exact ev_neg (by decide) (Ev.now _)
  rw [if_neg h1]
  by_cases h2 : okL (ms.length : Int) 0 (wrap64 ((ts.length : Int) - 1)) ms = true
  ·
   rw [if_pos h2]
   have hp := rplay_ev b2 b4 ms (names_of b3 h2) (by omega) ms.length 0 l (by omega) hst
   refine ev_bind1 (a := (match plays ts l ms with | none => ([], true, false) | some r => (r, true, true))) (ev_neg h1 (ev_bind1 (rlist_ev _ _ _ _ ha) ?_)) ?_
   ·
    rw [h2]
    refine Ev.step (fun k => by rw [dropperref06_play.j0]) ?_
    refine ev_neg (by decide) ?_
    refine ev_some ?_
    refine ev_pos ?_ ?_
    ·
     have := hst.len; simp; omega
    ·
     simpa using hp
   ·
    unfold playsS
    cases plays ts l ms with
    | none => exact ev_pos rfl (ev_neg (by decide) (Ev.now _))
    | some r => exact ev_pos rfl (ev_pos rfl (Ev.now _))
  ·
   rw [if_neg h2]
   refine ev_bind1 (a := ([], false, false)) (ev_neg h1 (ev_bind1 (rlist_ev _ _ _ _ ha) ?_)) ?_
   ·
    have h2' : okL (ms.length : Int) 0 (wrap64 ((ts.length : Int) - 1)) ms = false := by simpa using h2
    rw [h2']; exact HJ
   ·
    exact ev_neg (by decide) (Ev.now _)
 ·
  rw [if_neg h0]; exact ev_neg h0 (Ev.now _)
def IsS (p : List Int × Int) : Bool × Int := if p.2 = 5 then (false, 0) else (p.2 == 0, p.2)
theorem IsPlay_ev (n : Int) (ts : List S64) (l ms : List Int) : Ev (fun k => key_IsPlay.f k n ts l ms) (IsS (AfterS n ts l ms)) := by
 unfold key_IsPlay.f IsS
 refine ev_bind1 (After_ev n ts l ms) ?_
 by_cases h : (AfterS n ts l ms).2 = 5
 ·
  rw [if_pos h, if_pos h]; exact Ev.now _
 ·
  rw [if_neg h, if_neg h]; exact Ev.now _
theorem rIsPlay_ev (n : Int) (ts : List S64) (l ms : List Int) (hf : Fits ts) (hl : l.length ≤ 9223372036854775807) (ha : ms.length ≤ 9223372036854775807) : Ev (fun k => dropperref06_IsPlay.f k n ts l ms) (IsS (AfterS n ts l ms)) := by
 unfold dropperref06_IsPlay.f IsS
 refine ev_bind1 (rAfter_ev n ts l ms hf hl ha) ?_
 by_cases h : (AfterS n ts l ms).2 = 5
 ·
  rw [if_pos h, if_pos h]; exact Ev.now _
 ·
  rw [if_neg h, if_neg h]; exact Ev.now _
/-! ### Make -/
theorem Make_val (n : Int) (ts : List S64) (l : List Int) (a : Int) : key_Make.f n ts l a = some (AfterS n ts l [a]) := by
 unfold key_Make.f AfterS
 rw [open_val, Option.bind_some]
 by_cases h0 : asks n ts [l] = 0
 ·
  obtain ⟨hb, hls⟩ := asks_zero h0
  obtain ⟨⟨b1, b2⟩, b3, b4⟩ := (okB_iff n ts).1 hb
  have hst := St.of (hls l (by simp))
  have hw : wrap64 ((ts.length : Int) - 1) = (ts.length : Int) - 1 := wrap_id (by omega) (by omega)
  have hwi : key_within.f 0 a (wrap64 ((ts.length : Int) - 1)) = some (decide (0 ≤ a) && decide (a ≤ (ts.length : Int) - 1)) := by
   rw [hw]; unfold key_within.f
   by_cases h : 0 ≤ a
   ·
    rw [if_pos h, decide_eq_true h, Bool.true_and]
   ·
    rw [if_neg h, decide_eq_false h, Bool.false_and]
  have hok : okL (([a] : List Int).length : Int) 0 (wrap64 ((ts.length : Int) - 1)) [a] = (decide (0 ≤ a) && decide (a ≤ (ts.length : Int) - 1)) := by
   rw [hw]; simp [okL, key_isList.bad]
  rw [if_pos h0, if_pos h0, hwi, Option.bind_some, if_neg (show ¬ (([a] : List Int).length : Int) > 1000 by simp), hok]
  cases hc : (decide (0 ≤ a) && decide (a ≤ (ts.length : Int) - 1)) with
  | false => rfl
  | true =>
   have hc' : 0 ≤ a ∧ a ≤ (ts.length : Int) - 1 := by simpa using hc
   have ht := okT_at b4 hc'.1 (show a < (ts.length : Int) by omega)
   rw [if_pos rfl, if_pos rfl]
   rw [show key_keysOf.f l = some (tup6 l) from rfl, Option.bind_some, if_pos hc'.1, if_pos (by omega)]
   have hm := made_st b2 hst ht
   simp only [tup6]
   rw [hm]
   unfold playsS
   rw [plays]
   cases hq : mv l (rd_T64 ts a).f0 (rd_T64 ts a).f1 with
   | none => rfl
   | some r =>
    simp only [Option.bind_some, if_true, plays]
    rw [list_st b2 (hst.mv ht hq)]
    rfl
 ·
  rw [if_neg h0, if_neg h0]
theorem rMake_ev (n : Int) (ts : List S64) (l : List Int) (a : Int) (hf : Fits ts) (hl : l.length ≤ 9223372036854775807) : Ev (fun k => dropperref06_Make.f k n ts l a) (AfterS n ts l [a]) := by
 unfold dropperref06_Make.f
 exact ev_bind1 (rAfter_ev n ts l [a] hf hl (by simp)) (Ev.now _)
/-! ### Can -/
def cans (l : List Int) : Nat → List S64 → List Int
 | _, [] => []
 | i, t :: ts => if (mv l t.f0 t.f1).isSome = true then (i : Int) :: cans l (i + 1) ts else cans l (i + 1) ts
def CanS (n : Int) (ts : List S64) (l : List Int) : List Int × Int := if asks n ts [l] = 0 then (cans l 0 ts, 0) else ([], asks n ts [l])
theorem kcan_ev {n : Int} {ts : List S64} (hn : n ≤ 6) (h8 : ts.length ≤ 8) (hts : ∀ t ∈ ts, okT n t = true) {l : List Int} (h : St n l) :
  Ev (fun k => key_can.f k n ts (rd l 0) (rd l 1) (rd l 2) (rd l 3) (rd l 4) (rd l 5)) (cans l 0 ts) := by
 have H : ∀ (d i : Nat) (acc : List Int), i + d = ts.length → acc.length ≤ i → Ev (fun k => key_can.l0 k acc ts (ts.length : Int) (i : Int) (rd l 0) (rd l 1) (rd l 2) (rd l 3) (rd l 4) (rd l 5)) (acc ++ cans l i (ts.drop i)) := by
  intro d
  induction d with
  | zero =>
   intro i acc hi ha
   rw [List.drop_eq_nil_of_le (by omega : ts.length ≤ i), cans, List.append_nil]
   refine Ev.step (fun k => by rw [key_can.l0]) (ev_neg (by omega) ?_); exact Ev.now _
  | succ d ih =>
   intro i acc hi ha
   have hlt : i < ts.length := by omega
   rw [List.drop_eq_getElem_cons hlt, cans]
   refine Ev.step (fun k => by rw [key_can.l0]) (ev_pos (by omega) (ev_pos (by omega) (ev_pos (by omega) ?_)))
   rw [rd_S ts i hlt]
   refine ev_val (made_st hn h (hts _ (List.getElem_mem hlt))) ?_
   rw [wrap_succ (l := ts.length) i hlt (by omega)]
   cases mv l ts[i].f0 ts[i].f1 with
   | none => refine ev_neg (by decide) ?_; rw [if_neg (by decide)]; exact ih (i + 1) acc (by omega) (by omega)
   | some r =>
    refine ev_pos rfl (ev_pos (by omega) ?_)
    rw [if_pos (show (some r).isSome = true from rfl)]
    have := ih (i + 1) (acc ++ [(i : Int)]) (by omega) (by simp; omega)
    simpa using this
 unfold key_can.f
 have := H ts.length 0 [] (by omega) (by simp)
 simpa using this
theorem Can_ev (n : Int) (ts : List S64) (l : List Int) : Ev (fun k => key_Can.f k n ts l) (CanS n ts l) := by
 unfold key_Can.f CanS
 refine ev_val (open_val n ts [l]) ?_
 by_cases h0 : asks n ts [l] = 0
 ·
  obtain ⟨hb, hls⟩ := asks_zero h0
  obtain ⟨⟨b1, b2⟩, b3, b4⟩ := (okB_iff n ts).1 hb
  rw [if_pos h0]
  exact ev_pos h0 (ev_val rfl (ev_bind1 (kcan_ev b2 b3 b4 (St.of (hls l (by simp)))) (Ev.now _)))
 ·
  rw [if_neg h0]; exact ev_neg h0 (Ev.now _)
theorem rCan_ev (n : Int) (ts : List S64) (l : List Int) (hf : Fits ts) (hl : l.length ≤ 9223372036854775807) : Ev (fun k => dropperref06_Can.f k n ts l) (CanS n ts l) := by
 unfold dropperref06_Can.f CanS
 refine ev_bind1 (asked_ev n ts [l] hf (by simp) (by simpa using hl)) ?_
 by_cases h0 : asks n ts [l] = 0
 ·
  obtain ⟨hb, hls⟩ := asks_zero h0
  obtain ⟨⟨b1, b2⟩, b3, b4⟩ := (okB_iff n ts).1 hb
  have h := St.of (hls l (by simp))
  rw [if_pos h0]
  refine ev_pos h0 ?_
  have H : ∀ (d i : Nat) (acc : List Int), i + d = ts.length → acc.length ≤ i → Ev (fun k => dropperref06_Can.l0 k l acc (i : Int) n ts) (acc ++ cans l i (ts.drop i), 0) := by
   intro d
   induction d with
   | zero =>
    intro i acc hi ha
    rw [List.drop_eq_nil_of_le (by omega : ts.length ≤ i), cans, List.append_nil]
    refine Ev.step (fun k => by rw [dropperref06_Can.l0]) (ev_neg (by omega) ?_); exact Ev.now _
   | succ d ih =>
    intro i acc hi ha
    have hlt : i < ts.length := by omega
    rw [List.drop_eq_getElem_cons hlt, cans]
    refine Ev.step (fun k => by rw [dropperref06_Can.l0]) (ev_pos (by omega) (ev_pos (by omega) ?_))
    rw [rd_S ts i hlt]
    refine ev_bind1 (after_st b2 h (b4 _ (List.getElem_mem hlt))) ?_
    rw [wrap_succ (l := ts.length) i hlt (by omega)]
    cases mv l ts[i].f0 ts[i].f1 with
    | none => refine ev_neg (by decide) ?_; rw [if_neg (by decide)]; exact ih (i + 1) acc (by omega) (by omega)
    | some r =>
     refine ev_pos rfl (ev_pos (by omega) ?_)
     rw [if_pos (show (some r).isSome = true from rfl)]
     have := ih (i + 1) (acc ++ [(i : Int)]) (by omega) (by simp; omega)
     simpa using this
  have := H ts.length 0 [] (by omega) (by simp)
  simpa using this
 ·
  rw [if_neg h0]; exact ev_neg h0 (Ev.now _)
theorem cans_len (l : List Int) : ∀ (ts : List S64) (i : Nat), (cans l i ts).length ≤ ts.length
 | [], i => Nat.le_refl _
 | t :: ts, i => by
  rw [cans]
  have := cans_len l ts (i + 1)
  split <;> simp <;> omega
theorem CanS_len (n : Int) (ts : List S64) (l : List Int) : (CanS n ts l).1.length ≤ 9223372036854775807 := by
 unfold CanS
 split
 ·
  rename_i h0
  obtain ⟨hb, hls⟩ := asks_zero h0
  obtain ⟨⟨b1, b2⟩, b3, b4⟩ := (okB_iff n ts).1 hb
  have := cans_len l ts 0
  simp only; omega
 ·
  simp
theorem plays_st {n : Int} {ts : List S64} (hts : ∀ t ∈ ts, okT n t = true) : ∀ {ms l r : List Int}, Names ts ms → St n l → plays ts l ms = some r → St n r
 | [], l, r, _, h, e => by rw [plays] at e; cases e; exact h
 | a :: ms, l, r, hN, h, e => by
  rw [plays] at e
  obtain ⟨y, e1, e2⟩ := Option.bind_eq_some_iff.1 e
  have ha := hN a (List.mem_cons_self ..)
  exact plays_st hts (fun x hx => hN x (List.mem_cons_of_mem _ hx)) (h.mv (okT_at hts ha.1 ha.2) e1) e2
theorem AfterS_len (n : Int) (ts : List S64) (l ms : List Int) (hl : l.length ≤ 9223372036854775807) : (AfterS n ts l ms).1.length ≤ 9223372036854775807 := by
 unfold AfterS
 split
 ·
  rename_i h0
  obtain ⟨hb, hls⟩ := asks_zero h0
  obtain ⟨⟨b1, b2⟩, b3, b4⟩ := (okB_iff n ts).1 hb
  split
  ·
   simp
  ·
   split
   ·
    rename_i h2
    unfold playsS
    cases hp : plays ts l ms with
    | none => simp
    | some r =>
     have := (plays_st b4 (names_of b3 h2) (St.of (hls l (by simp))) hp).len
     simp only; omega
   ·
    simp
 ·
  simp
end Go.Proofs.Ytgdfakmlpdeabaa.Keys

/- What comes about on a board, breadth first: each state once, the steps that led there, and that no shorter play leads there. -/
namespace Go.Proofs.Ytgdfakmlpdeabaa.Keys
set_option linter.unusedVariables false
set_option linter.unusedSimpArgs false
open Go.RowKit Go.Proofs.Ytgdfakmlpdeabaa.XKey Go.Proofs.YtgdfakmlpdeabaaW.PrintWords Go.Proofs.YtgdfakmlpdeabaaW.PrintLast Go.Proofs.YtgdfakmlpdeabaaW.PrintMore
def pk (l : List Int) : S70 := ⟨rd l 0, rd l 1, rd l 2, rd l 3, rd l 4, rd l 5⟩
theorem toL_pk (l : List Int) : key_spread.toL (pk l) = six l := rfl
theorem six_inj {a b : List Int} (h : a.length = b.length) (h6 : a.length ≤ 6) (e : six a = six b) : a = b := by
 rw [six_app a h6, six_app b (by omega)] at e
 exact (List.append_inj e h).1
theorem take_pk {n : Int} {l : List Int} (hn : n ≤ 6) (h : St n l) : (key_spread.toL (pk l)).take n.toNat = l := by
 have h1 := h.len
 rw [toL_pk, six_app l (by omega), show n.toNat = l.length by omega]
 simp
theorem wf_pk {n : Int} {l : List Int} (hn : n ≤ 6) (h : St n l) : wf6 [rd l 0, rd l 1, rd l 2, rd l 3, rd l 4, rd l 5] := by
 have hr : ∀ i : Int, -9223372036854775808 ≤ rd l i ∧ rd l i ≤ 9223372036854775807 := by
  intro i
  by_cases hi : i.toNat < l.length
  ·
   have := h.rng l[i.toNat] (List.getElem_mem hi)
   simp only [rd, List.getD_eq_getElem?_getD, List.getElem?_eq_getElem hi, Option.getD_some]
   omega
  ·
   simp [rd, List.getD_eq_getElem?_getD, List.getElem?_eq_none (by omega : l.length ≤ i.toNat)]
 intro x hx
 simp only [List.mem_cons, List.not_mem_nil, or_false] at hx
 rcases hx with rfl | rfl | rfl | rfl | rfl | rfl <;> exact hr _
theorem mem_pk {n : Int} {L : List (List Int)} {r : List Int} (hn : n ≤ 6) (hL : ∀ l ∈ L, St n l) (hr : St n r) : six r ∈ (L.map pk).map key_spread.toL ↔ r ∈ L := by
 simp only [List.map_map, List.mem_map, Function.comp, toL_pk]
 constructor
 ·
  rintro ⟨l, hl, e⟩
  have h1 := (hL l hl).len; have h2 := hr.len
  rw [← six_inj (by omega) (by omega) e]; exact hl
 ·
  exact fun h => ⟨r, h, rfl⟩
def inner (l : List Int) (i : Nat) : List S64 → Nat → List (List Int) → List S107 → Option (List (List Int) × List S107)
 | [], _, L, st => some (L, st)
 | u :: us, t, L, st => match mv l u.f0 u.f1 with
  | none => inner l i us (t + 1) L st
  | some r => if r ∈ L then inner l i us (t + 1) L st else if 300 < L.length + 1 then none else inner l i us (t + 1) (L ++ [r]) (st ++ [⟨i, t⟩])
def bfs (ts : List S64) : Nat → Nat → List (List Int) → List S107 → Option (Option (List (List Int) × List S107))
 | 0, _, _, _ => none
 | m + 1, i, L, st => if h : i < L.length then (match inner L[i] i ts 0 L st with | none => some none | some (L', st') => bfs ts m (i + 1) L' st') else some (some (L, st))
theorem inner_st {n : Int} {l : List Int} {i : Nat} (h : St n l) : ∀ {us : List S64} {t : Nat} {L L' : List (List Int)} {st st' : List S107}, (∀ u ∈ us, okT n u = true) → (∀ x ∈ L, St n x) → inner l i us t L st = some (L', st') → ∀ x ∈ L', St n x
 | [], t, L, L', st, st', _, hL, e => by rw [inner] at e; cases e; exact hL
 | u :: us, t, L, L', st, st', hu, hL, e => by
  have hu' := fun x hx => hu x (List.mem_cons_of_mem _ hx)
  rw [inner] at e
  split at e
  ·
   exact inner_st h hu' hL e
  ·
   rename_i r hr
   split at e
   ·
    exact inner_st h hu' hL e
   ·
    split at e
    ·
     cases e
    ·
     refine inner_st h hu' (fun x hx => ?_) e
     rcases List.mem_append.1 hx with hx | hx
     ·
      exact hL x hx
     ·
      rw [List.mem_singleton.1 hx]; exact h.mv (hu u (List.mem_cons_self ..)) hr
theorem inner_eq {n : Int} {l : List Int} {i : Nat} (hn : n ≤ 6) (h : St n l) : ∀ {us : List S64} {t : Nat} {L : List (List Int)} {st : List S107}, (∀ u ∈ us, okT n u = true) → (∀ x ∈ L, St n x) →
  key_spread.inner (pk l) i us t (L.map pk) st = some ((inner l i us t L st).map fun p => (p.1.map pk, p.2))
 | [], t, L, st, _, hL => rfl
 | u :: us, t, L, st, hu, hL => by
  have hu' := fun x hx => hu x (List.mem_cons_of_mem _ hx)
  have hm := made_st hn h (hu u (List.mem_cons_self ..))
  rw [key_spread.inner, inner]
  simp only [pk] at hm ⊢
  rw [hm]
  have e1 : (t : Int) + 1 = ((t + 1 : Nat) : Int) := by omega
  cases hq : mv l u.f0 u.f1 with
  | none =>
   simp only [Option.bind_some]
   rw [if_pos (by decide), if_neg (by simp), e1]
   exact inner_eq hn h hu' hL
  | some r =>
   have hr := h.mv (hu u (List.mem_cons_self ..)) hq
   simp only [Option.bind_some]
   rw [if_pos (wf_pk hn hr), e1]
   have hmem := mem_pk hn hL hr
   rw [six] at hmem
   by_cases hin : r ∈ L
   ·
    rw [if_neg (fun hh => hh.2 (hmem.2 hin)), if_pos hin]
    exact inner_eq hn h hu' hL
   ·
    rw [if_pos ⟨trivial, fun hh => hin (hmem.1 hh)⟩, if_neg hin, List.length_map]
    by_cases h3 : 300 < L.length + 1
    ·
     rw [if_pos h3, if_pos h3]; rfl
    ·
     rw [if_neg h3, if_neg h3]
     have hL' : ∀ x ∈ L ++ [r], St n x := by
      intro x hx
      rcases List.mem_append.1 hx with hx | hx
      ·
       exact hL x hx
      ·
       rw [List.mem_singleton.1 hx]; exact hr
     have := inner_eq (i := i) hn h (t := t + 1) (st := st ++ [⟨i, t⟩]) hu' hL'
     rw [List.map_append] at this
     exact this
theorem bfs_eq {n : Int} {ts : List S64} (hn : n ≤ 6) (hts : ∀ u ∈ ts, okT n u = true) : ∀ {m i : Nat} {L : List (List Int)} {st : List S107}, (∀ x ∈ L, St n x) →
  key_spread.go ts m i (L.map pk) st = (bfs ts m i L st).map fun o => match o with | none => ([], [], false) | some p => (p.1.map pk, p.2, true)
 | 0, i, L, st, _ => rfl
 | m + 1, i, L, st, hL => by
  rw [key_spread.go, bfs]
  by_cases h : i < L.length
  ·
   rw [dif_pos (by simpa using h), dif_pos h]
   have hl := hL L[i] (List.getElem_mem h)
   have e := inner_eq (i := i) hn hl (t := 0) (st := st) hts hL
   simp only [List.getElem_map]
   rw [show (0 : Int) = ((0 : Nat) : Int) from rfl, e]
   cases hi : inner L[i] i ts 0 L st with
   | none => rfl
   | some p =>
    obtain ⟨L', st'⟩ := p
    simp only [Option.map_some, Option.bind_some]
    exact bfs_eq hn hts (inner_st hl hts hL hi)
  ·
   rw [dif_neg (by simpa using h), dif_neg h]; rfl
end Go.Proofs.Ytgdfakmlpdeabaa.Keys

/- What stands of the states breadth first. -/
namespace Go.Proofs.Ytgdfakmlpdeabaa.Keys
set_option linter.unusedVariables false
set_option linter.unusedSimpArgs false
open Go.RowKit Go.Proofs.Ytgdfakmlpdeabaa.XKey Go.Proofs.YtgdfakmlpdeabaaW.PrintWords Go.Proofs.YtgdfakmlpdeabaaW.PrintLast Go.Proofs.YtgdfakmlpdeabaaW.PrintMore
structure Inv (n : Int) (ts : List S64) (x0 : List Int) (i t : Nat) (L : List (List Int)) (st : List S107) (D : Nat → Nat) : Prop where
 sts : ∀ x ∈ L, St n x
 hd : L[0]? = some x0
 len : st.length = L.length
 nodup : L.Nodup
 st0 : st[0]? = some ⟨-1, -1⟩
 d0 : D 0 = 0
 par : ∀ j, 0 < j → j < L.length → ∃ p q : Nat, p < j ∧ st[j]? = some ⟨(p : Int), (q : Int)⟩ ∧ D j = D p + 1 ∧ ∃ l u y, L[p]? = some l ∧ ts[q]? = some u ∧ L[j]? = some y ∧ mv l u.f0 u.f1 = some y
 mono : ∀ j k, j ≤ k → k < L.length → D j ≤ D k
 tops : i < L.length → ∀ j, j < L.length → D j ≤ D i + 1
 clo : ∀ k q l u y, (k < i ∨ (k = i ∧ q < t)) → L[k]? = some l → ts[q]? = some u → mv l u.f0 u.f1 = some y → ∃ j, j < L.length ∧ L[j]? = some y ∧ D j ≤ D k + 1
theorem Inv.start {n : Int} {ts : List S64} {x0 : List Int} (h : St n x0) : Inv n ts x0 0 0 [x0] [⟨-1, -1⟩] (fun _ => 0) where
 sts := fun x hx => by rw [List.mem_singleton.1 hx]; exact h
 hd := rfl
 len := rfl
 nodup := by simp
 st0 := rfl
 d0 := rfl
 par := fun j h0 h1 => by simp at h1; omega
 mono := fun _ _ _ _ => Nat.le_refl _
 tops := fun _ _ _ => Nat.zero_le _
 clo := fun k q l u y hk => by omega
theorem Inv.next {n : Int} {ts : List S64} {x0 : List Int} {i t : Nat} {L : List (List Int)} {st : List S107} {D : Nat → Nat} (h : Inv n ts x0 i t L st D)
  (hc : ∀ l u y, L[i]? = some l → ts[t]? = some u → mv l u.f0 u.f1 = some y → ∃ j, j < L.length ∧ L[j]? = some y ∧ D j ≤ D i + 1) : Inv n ts x0 i (t + 1) L st D where
 sts := h.sts
 hd := h.hd
 len := h.len
 nodup := h.nodup
 st0 := h.st0
 d0 := h.d0
 par := h.par
 mono := h.mono
 tops := h.tops
 clo := fun k q l u y hk hl hu hm => by
  by_cases e : k = i ∧ q = t
  ·
   obtain ⟨rfl, rfl⟩ := e; exact hc l u y hl hu hm
  ·
   exact h.clo k q l u y (by omega) hl hu hm
theorem Inv.add {n : Int} {ts : List S64} {x0 : List Int} {i t : Nat} {L : List (List Int)} {st : List S107} {D : Nat → Nat} (h : Inv n ts x0 i t L st D) (hi : i < L.length) {l r : List Int} {u : S64}
  (hl : L[i]? = some l) (hu : ts[t]? = some u) (hm : mv l u.f0 u.f1 = some r) (hr : St n r) (hn : ¬ r ∈ L) : Inv n ts x0 i t (L ++ [r]) (st ++ [⟨(i : Int), (t : Int)⟩]) (fun j => if j < L.length then D j else D i + 1) where
 sts := fun x hx => by
  rcases List.mem_append.1 hx with hx | hx
  ·
   exact h.sts x hx
  ·
   rw [List.mem_singleton.1 hx]; exact hr
 hd := by rw [List.getElem?_append_left (by omega)]; exact h.hd
 len := by simp [h.len]
 nodup := by
  rw [List.nodup_append]
  refine ⟨h.nodup, by simp, ?_⟩
  intro a ha b hb
  rw [List.mem_singleton.1 hb]
  intro e; subst e; exact hn ha
 st0 := by rw [List.getElem?_append_left (by rw [h.len]; omega)]; exact h.st0
 d0 := by rw [if_pos (by omega)]; exact h.d0
 par := fun j h0 h1 => by
  have h1' : j < L.length + 1 := by simpa using h1
  by_cases hj : j < L.length
  ·
   obtain ⟨p, q, a, b, c, l', u', y, e1, e2, e3, e4⟩ := h.par j h0 hj
   refine ⟨p, q, a, ?_, ?_, l', u', y, ?_, e2, ?_, e4⟩
   ·
    rw [List.getElem?_append_left (by rw [h.len]; omega)]; exact b
   ·
    rw [if_pos hj, if_pos (by omega)]; exact c
   ·
    rw [List.getElem?_append_left (by omega)]; exact e1
   ·
    rw [List.getElem?_append_left hj]; exact e3
  ·
   have hjl : j = L.length := by omega
   refine ⟨i, t, by omega, ?_, ?_, l, u, r, ?_, hu, ?_, hm⟩
   ·
    rw [hjl, ← h.len]; simp
   ·
    rw [if_neg hj, if_pos hi]
   ·
    rw [List.getElem?_append_left hi]; exact hl
   ·
    rw [hjl]; simp
 mono := fun j k hjk hk => by
  have hk' : k < L.length + 1 := by simpa using hk
  by_cases h1 : k < L.length
  ·
   rw [if_pos h1, if_pos (by omega)]; exact h.mono j k hjk h1
  ·
   rw [if_neg h1]
   by_cases h2 : j < L.length
   ·
    rw [if_pos h2]; exact h.tops hi j h2
   ·
    rw [if_neg h2]; exact Nat.le_refl _
 tops := fun _ j hj => by
  rw [if_pos hi]
  by_cases h2 : j < L.length
  ·
   rw [if_pos h2]; exact h.tops hi j h2
  ·
   rw [if_neg h2]; exact Nat.le_refl _
 clo := fun k q l' u' y hk e1 e2 e3 => by
  have hkl : k < L.length := by omega
  rw [List.getElem?_append_left hkl] at e1
  obtain ⟨j, a, b, c⟩ := h.clo k q l' u' y hk e1 e2 e3
  refine ⟨j, by simp; omega, by rw [List.getElem?_append_left a]; exact b, ?_⟩
  rw [if_pos a, if_pos hkl]; exact c
theorem Inv.inner {n : Int} {ts : List S64} {x0 : List Int} {i : Nat} {l : List Int} (hts : ∀ u ∈ ts, okT n u = true) : ∀ {us : List S64} {t : Nat} {L L' : List (List Int)} {st st' : List S107} {D : Nat → Nat},
  ts.drop t = us → t ≤ ts.length → Inv n ts x0 i t L st D → L[i]? = some l → Keys.inner l i us t L st = some (L', st') → ∃ D', Inv n ts x0 i ts.length L' st' D' ∧ i < L'.length
 | [], t, L, L', st, st', D, hd, ht, h, hl, e => by
  rw [Keys.inner] at e; cases e
  have : ts.length ≤ t := by simpa using List.drop_eq_nil_iff.1 hd
  have e2 : t = ts.length := by omega
  subst e2
  exact ⟨D, h, (List.getElem?_eq_some_iff.1 hl).1⟩
 | u :: us, t, L, L', st, st', D, hd, ht, h, hl, e => by
  have hlt : t < ts.length := by
   by_cases hh : t < ts.length
   ·
    exact hh
   ·
    rw [List.drop_eq_nil_of_le (by omega)] at hd; cases hd
  have hi : i < L.length := (List.getElem?_eq_some_iff.1 hl).1
  rw [List.drop_eq_getElem_cons hlt] at hd
  injection hd with hd1 hd2
  have hu : ts[t]? = some u := by rw [List.getElem?_eq_getElem hlt, hd1]
  have hok := hts u (by rw [← hd1]; exact List.getElem_mem hlt)
  have hL : l ∈ L := List.mem_of_getElem? hl
  rw [Keys.inner] at e
  split at e
  ·
   rename_i hm
   refine Inv.inner hts hd2 hlt (h.next (fun l' u' y e1 e2 e3 => ?_)) hl e
   rw [hl] at e1; rw [hu] at e2; cases e1; cases e2; rw [hm] at e3; cases e3
  ·
   rename_i r hm
   split at e
   ·
    rename_i hin
    refine Inv.inner hts hd2 hlt (h.next (fun l' u' y e1 e2 e3 => ?_)) hl e
    rw [hl] at e1; rw [hu] at e2; cases e1; cases e2; rw [hm] at e3; cases e3
    obtain ⟨j, hj, ej⟩ := List.mem_iff_getElem.1 hin
    exact ⟨j, hj, by rw [List.getElem?_eq_getElem hj, ej], h.tops hi j hj⟩
   ·
    rename_i hin
    split at e
    ·
     cases e
    ·
     have ha := h.add hi hl hu hm ((h.sts l hL).mv hok hm) hin
     refine Inv.inner hts hd2 hlt (ha.next (fun l' u' y e1 e2 e3 => ?_)) (by rw [List.getElem?_append_left hi]; exact hl) e
     rw [List.getElem?_append_left hi, hl] at e1; rw [hu] at e2; cases e1; cases e2; rw [hm] at e3; cases e3
     refine ⟨L.length, by simp, by simp, ?_⟩
     simp [hi]
theorem Inv.bfs {n : Int} {ts : List S64} {x0 : List Int} (hts : ∀ u ∈ ts, okT n u = true) : ∀ {m i : Nat} {L L' : List (List Int)} {st st' : List S107} {D : Nat → Nat},
  Inv n ts x0 i 0 L st D → i ≤ L.length → Keys.bfs ts m i L st = some (some (L', st')) → ∃ D', Inv n ts x0 L'.length 0 L' st' D'
 | 0, i, L, L', st, st', D, h, hi, e => by rw [Keys.bfs] at e; cases e
 | m + 1, i, L, L', st, st', D, h, hi, e => by
  rw [Keys.bfs] at e
  by_cases hlt : i < L.length
  ·
   rw [dif_pos hlt] at e
   split at e
   ·
    cases e
   ·
    rename_i L1 st1 hin
    obtain ⟨D1, h1, hi1⟩ := Inv.inner hts (us := ts) (t := 0) rfl (Nat.zero_le _) h (List.getElem?_eq_getElem hlt) hin
    refine Inv.bfs hts (D := D1) ?_ hi1 e
    exact { sts := h1.sts, hd := h1.hd, len := h1.len, nodup := h1.nodup, st0 := h1.st0, d0 := h1.d0, par := h1.par, mono := h1.mono, tops := fun hh j hj => Nat.le_trans (h1.tops hi1 j hj) (Nat.succ_le_succ (h1.mono i (i + 1) (Nat.le_succ _) hh)), clo := fun k q l u y hk e1 e2 e3 => h1.clo k q l u y (by have := (List.getElem?_eq_some_iff.1 e2).1; omega) e1 e2 e3 }
  ·
   rw [dif_neg hlt] at e
   have e1 : i = L.length := by omega
   subst e1
   cases e
   exact ⟨D, h⟩
theorem inner_len {l : List Int} {i : Nat} : ∀ {us : List S64} {t : Nat} {L L' : List (List Int)} {st st' : List S107}, inner l i us t L st = some (L', st') → L.length ≤ 300 → L'.length ≤ 300 ∧ L.length ≤ L'.length
 | [], t, L, L', st, st', e, hl => by rw [inner] at e; cases e; exact ⟨hl, Nat.le_refl _⟩
 | u :: us, t, L, L', st, st', e, hl => by
  rw [inner] at e
  split at e
  ·
   exact inner_len e hl
  ·
   split at e
   ·
    exact inner_len e hl
   ·
    split at e
    ·
     cases e
    ·
     rename_i h3
     have := inner_len e (by simp; omega)
     simp at this
     exact ⟨this.1, by omega⟩
theorem bfs_some {ts : List S64} : ∀ {m i : Nat} {L : List (List Int)} {st : List S107}, L.length ≤ 300 → i ≤ L.length → 300 < m + i → ∃ o, bfs ts m i L st = some o
 | 0, i, L, st, h1, h2, h3 => by omega
 | m + 1, i, L, st, h1, h2, h3 => by
  rw [bfs]
  by_cases hlt : i < L.length
  ·
   rw [dif_pos hlt]
   cases hin : inner L[i] i ts 0 L st with
   | none => exact ⟨_, rfl⟩
   | some p =>
    obtain ⟨L1, st1⟩ := p
    have := inner_len hin h1
    exact bfs_some this.1 (by omega) (by omega)
  ·
   rw [dif_neg hlt]; exact ⟨_, rfl⟩
end Go.Proofs.Ytgdfakmlpdeabaa.Keys

namespace Go.Proofs.Ytgdfakmlpdeabaa.XKey
open Go.RowKit Go.Proofs.YtgdfakmlpdeabaaW.PrintWords Go.Proofs.YtgdfakmlpdeabaaW.PrintLast Go.Proofs.YtgdfakmlpdeabaaW.PrintMore
attribute [local go_sem] max2_int min2_int max_two min_two max_three min_three max_four min_four   -- for this text's walks alone
set_option linter.unusedVariables false
set_option linter.unusedSimpArgs false
/-! ### key_Holds: function 21 -/
def key_Holds.f (k : Nat) (a0_0 : Int) (l0_1 : List (S64)) (l1 : List Int) : Option (Bool × Int) := (key_weighed.f a0_0 l0_1 l1 ([] : List (List Int))).bind fun t209 => (if t209 = 0 then ((key_holds.f k a0_0 l0_1 l1).bind fun t210 => (some (t210, 0))) else (some (false, t209)))
/-! ### key_Sum: function 22 -/
def key_Sum.f (k : Nat) (a0_0 : Int) (l0_1 : List (S64)) (l1 : List Int) (l2 : List Int) : Option (Int × Int) := (key_weighed.f a0_0 l0_1 l1 (([l2] : List (List Int)))).bind fun t215 => (if t215 = 0 then ((key_sum.f k l1 l2).bind fun t216 => (some (t216, 0))) else (some (0, t215)))
end Go.Proofs.Ytgdfakmlpdeabaa.XKey