-- Written by wip/pack.py of this repo: texts of this claim, put together.
import Derived.Deep.RegionLawGrows
import Derived.Deep.RegionHeld3
import Derived.Outline
import Derived.Test.YtcmdcgghpkcchaaDoorKMastb
namespace Go.Proofs.YtcmdcgghpkcchaaDoor.XMast
open Go.RowKit Go.Proofs.YtcmdcgghpkcchaaDoorW.PrintWords Go.Proofs.YtcmdcgghpkcchaaDoorW.PrintLast Go.Proofs.YtcmdcgghpkcchaaDoorW.PrintMore
attribute [local go_sem] max2_int min2_int max_two min_two max_three min_three max_four min_four   -- for this text's walks alone
set_option linter.unusedVariables false
set_option linter.unusedSimpArgs false
/-! ### mast_Valid: function 50 -/
def mast_Valid.l0 : Nat → List (S46) → List (S46) → Int → Int → Option (Bool)
 | 0, _, _, _, _ => none
 | k + 1, x0, x5, x6, x7 => if x7 < x6 then (if 0 ≤ x7 then (if x7 < (x5.length : Int) then ((mast_isStretch.f ((rd_T46 x5 x7).f0) ((rd_T46 x5 x7).f1)).bind fun t110 => (if t110 = true then (if x7 > 0 then (if 0 ≤ (wrap64 (x7 - 1)) then (if (wrap64 (x7 - 1)) < (x0.length : Int) then (if ((rd_T46 x5 x7).f0) ≤ ((rd_T46 x0 (wrap64 (x7 - 1))).f1) then (some false) else (mast_Valid.l0 k x0 x5 x6 (wrap64 (x7 + 1)))) else (none)) else (none)) else (mast_Valid.l0 k x0 x5 x6 (wrap64 (x7 + 1)))) else (some false))) else (none)) else (none)) else (some (decide ((x0.length : Int) ≤ 60)))
def mast_Valid.f (k : Nat) (l0 : List (S46)) : Option (Bool) := mast_Valid.l0 k l0 l0 (l0.length : Int) 0
theorem mast_Valid.mono_l : ∀ k, (∀ y0 y1 y2 y3, LeO (mast_Valid.l0 k y0 y1 y2 y3) (mast_Valid.l0 (k + 1) y0 y1 y2 y3))
 | 0 => fun _ _ _ _ r h => by simp [mast_Valid.l0] at h
 | k + 1 => by
  have ih0 := mast_Valid.mono_l k
  ·
   intro y0 y1 y2 y3
   unfold mast_Valid.l0
   repeat' first
   | (with_reducible exact ih0 _ _ _ _)
   | (with_reducible exact LeO.refl _)
   | (with_reducible exact LeO.none _)
   | (with_reducible refine LeO.ite ?_ ?_)
   | (with_reducible refine LeO.bind ?_ (fun _ => ?_))
   | exact ih0 _ _ _ _
   | exact LeO.none _
   | refine LeO.ite ?_ ?_
   | refine LeO.bind ?_ (fun _ => ?_)
theorem mast_Valid.mono : ∀ a0 k, LeO (mast_Valid.f k a0) (mast_Valid.f (k + 1) a0) := by
 intro a0 k
 have ih0 := mast_Valid.mono_l k
 unfold mast_Valid.f
 repeat' first
   | (with_reducible exact ih0 _ _ _ _)
   | (with_reducible exact LeO.refl _)
   | (with_reducible exact LeO.none _)
   | (with_reducible refine LeO.ite ?_ ?_)
   | (with_reducible refine LeO.bind ?_ (fun _ => ?_))
   | exact ih0 _ _ _ _
   | exact LeO.none _
   | refine LeO.ite ?_ ?_
   | refine LeO.bind ?_ (fun _ => ?_)
def mast_Valid.T4 : Bool × List (List Nat × List Nat) := (true, [([], []), ([0], [0]), ([1], [1]), ([2, 1], [2]), ([3], [3]), ([4, 3], [3, 4]), ([5, 3, 3], [3, 5]), ([6], [6]), ([7, 6], [6, 7]), ([6], [6]), ([6], [6]), ([10, 6], [6, 10]), ([9, 11, 6], [6, 9, 11]), ([12, 6], [6, 12]), ([13, 6], [6, 13]), ([8, 14, 6], [6, 8, 14]), ([6, 15, 3], [3, 6, 15]), ([3, 16], [3, 16])])
def mast_Valid.B4 : List Nat := [0, 1, 3, 7, 15, 31, 63, 127, 255, 127, 127, 1151, 3711, 7807, 15999, 32767, 65535, 131071]
theorem mast_Valid.tab4 : rtab .any (opsOf Tryd.f50 4) = mast_Valid.T4 := by kernel_rfl
theorem mast_Valid.bits4 : waitsOk mast_Valid.T4.2 mast_Valid.B4 = true := by kernel_rfl
set_option maxHeartbeats 8000000 in
set_option maxRecDepth 100000 in
theorem mast_Valid.calls (k : Nat) (A0 : Option Addr) (c0 : Nat) (l0 : List (S46)) (r : Bool) (w : World) (hr0 : Kd.C k46 w A0 l0.length l0) (hc0 : l0.length ≤ c0) (h : mast_Valid.f k l0 = some r) :
  Calls Tryd.prog 50 #[.slice A0 l0.length c0] w fun e w' => e = .returned (.bool r) ∧ Below w.heap.size w w' := by
 have hu46 := Tryd.underlying46
 have HR0 := Aside0.mk hr0
 have HC0 := Aside0.mk hc0
 clear hr0 hc0
 have HB := Aside0.mk (Below.refl w.heap.size w)
 have H : (mast_Valid.l0 k l0 l0 (l0.length : Int) 0) = some r := h
 clear h
 have H' := Aside0.mk H
 clear H
 go_enter Tryd.func50, Tryd.ntmps50
 go_wp2
 go_loopg [7] k (fun kq v7 w' => ∃ (x7_1 : Int), v7 = .int .i64 x7_1 ∧ Aside0 (mast_Valid.l0 kq l0 l0 (l0.length : Int) x7_1 = some r) ∧ Aside0 (kq ≤ k) ∧ Aside0 (Below w.heap.size w w'))
 case atStart => exact ⟨(0), rsz, H', ⟨Nat.le_refl _⟩, ⟨bel⟩⟩
 case round =>
  clear H'
  obtain ⟨x7_1, rfl, HA, HK1, HB⟩ := hrel
  cases gk with
  | zero => exact absurd HA.out (by simp [mast_Valid.l0])
  | succ k1 =>
   have H := HA.out
   clear HA
   simp only [mast_Valid.l0] at H
   by_cases c2 : x7_1 < (l0.length : Int)
   ·
    rw [if_pos c2] at H
    have c2b0 : decide (x7_1 < (l0.length : Int)) = true := decide_eq_true c2
    clear c2
    by_cases c3 : 0 ≤ x7_1
    ·
     rw [if_pos c3] at H
     have c3b0 : decide (0 ≤ x7_1) = true := decide_eq_true c3
     clear c3
     by_cases c4 : x7_1 < (l0.length : Int)
     ·
      rw [if_pos c4] at H
      have c4b0 : decide (x7_1 < (l0.length : Int)) = true := decide_eq_true c4
      clear c4
      replace H := Option.bind_eq_some_iff.mp H
      obtain ⟨t110, A50, H⟩ := H
      try dsimp only at H
      have A5 := Aside0.mk A50
      clear A50
      by_cases c6 : t110 = true
      ·
       subst c6
       rw [if_pos rfl] at H
       by_cases c7 : x7_1 > 0
       ·
        rw [if_pos c7] at H
        have c7b0 : decide (0 < x7_1) = true := decide_eq_true c7
        clear c7
        obtain ⟨ji8, hji8⟩ : ∃ j_ : Int, (wrap64 (x7_1 - 1)) = j_ := ⟨_, rfl⟩
        replace H : (if 0 ≤ (ji8) then (if (ji8) < (l0.length : Int) then (if ((rd_T46 l0 x7_1).f0) ≤ ((rd_T46 l0 (ji8)).f1) then (some false) else (mast_Valid.l0 k1 l0 l0 (l0.length : Int) (wrap64 (x7_1 + 1)))) else (none)) else (none)) = some r := by first | (rw [hji8] at H; exact H) | (simp only [hji8] at H ⊢; exact H)
        (try rw [hji8] at A5)
        have hji8w : (IntKind.i64.wrap (x7_1 - 1)) = ji8 := (i64_w _).trans hji8
        by_cases c9 : 0 ≤ (ji8)
        ·
         rw [if_pos c9] at H
         have c9b0 : decide (0 ≤ (ji8)) = true := decide_eq_true c9
         clear c9
         by_cases c10 : (ji8) < (l0.length : Int)
         ·
          rw [if_pos c10] at H
          have c10b0 : decide ((ji8) < (l0.length : Int)) = true := decide_eq_true c10
          clear c10
          by_cases c11 : ((rd_T46 l0 x7_1).f0) ≤ ((rd_T46 l0 (ji8)).f1)
          ·
           rw [if_pos c11] at H
           have c11b0 : decide (((rd_T46 l0 x7_1).f0) ≤ ((rd_T46 l0 (ji8)).f1)) = true := decide_eq_true c11
           clear c11
           obtain rfl := Option.some.inj H
           have p108 : 0 ≤ (x7_1 : Int) := of_decide_eq_true asz
           have q108 : x7_1 < (l0.length : Int) := of_decide_eq_true asz
           obtain ⟨ad108, e108, hx108_0, hx108_1⟩ := at_T46 HR0.out x7_1 p108 q108
           cases e108
           replace hx108_0 := (HB.out.cell (World.block_lt_of_cell? w _ hx108_0)).trans hx108_0
           replace hx108_1 := (HB.out.cell (World.block_lt_of_cell? w _ hx108_1)).trans hx108_1
           replace p108 := eq_true p108
           replace q108 := eq_true q108
           try go_wp2_with (first | ((with_reducible refine gate_dst (N := 4) rfl ?_); refine box_event ?hg (N := 4) ?hd (cs := #[.int .i64 0, .int .i64 0]) (t := 46) ?hr ?_; (case hd => rfl); (case hg => rfl); (case hr => first | (go_simp; done) | (go_simp; rfl)); intro gb109 hg w12 hbox hb; have BK109 := Aside0.mk (hbox); have GW109 := bsz (w := w) hg; have GE109 := GW109; replace HB := Aside0.mk (below_step bel hb); clear hb hbox hg; obtain ⟨hcz13_0, hcz13_1⟩ := bc2 BK109.out; obtain ⟨hfz13_0, hfz13_1⟩ := bf2 BK109.out))
           have n0_ : Aside0 (((w12.setCell ⟨gb109, 0, none⟩ (.int .i64 ((rd_T46 l0 x7_1).f0))).setCell ⟨gb109, 1, none⟩ (.int .i64 ((rd_T46 l0 x7_1).f1))).heap[gb109]? = some (.cells #[.int .i64 ((rd_T46 l0 x7_1).f0), .int .i64 ((rd_T46 l0 x7_1).f1)] 46 (0, 0))) := ⟨by (with_reducible repeat (first | refine blk_drewN ?_ _ | refine blk_drew ?_ | refine blk_alloc ?_ _)); refine blk_put (cs := #[.int .i64 ((rd_T46 l0 x7_1).f0), .int .i64 0]) ?_ 1 _ rfl; (with_reducible repeat (first | refine blk_drewN ?_ _ | refine blk_drew ?_ | refine blk_alloc ?_ _)); refine blk_put (cs := #[.int .i64 0, .int .i64 0]) ?_ 0 _ rfl; (with_reducible repeat (first | refine blk_drewN ?_ _ | refine blk_drew ?_ | refine blk_alloc ?_ _)); exact BK109.out⟩
           have n1_ : Aside0 (Below w.heap.size w ((w12.setCell ⟨gb109, 0, none⟩ (.int .i64 ((rd_T46 l0 x7_1).f0))).setCell ⟨gb109, 1, none⟩ (.int .i64 ((rd_T46 l0 x7_1).f1)))) := ⟨bel⟩
           (try clear BK109)
           (try clear HB)
           generalize ((w12.setCell ⟨gb109, 0, none⟩ (.int .i64 ((rd_T46 l0 x7_1).f0))).setCell ⟨gb109, 1, none⟩ (.int .i64 ((rd_T46 l0 x7_1).f1))) = w14 at n0_ n1_ ⊢
           have BK109 := n0_
           have HB := n1_
           clear n0_ n1_
           have n0_ := Aside0.mk (blk_drew BK109.out)
           have n1_ := Aside0.mk (below_drew1 HB.out)
           clear BK109
           clear HB
           have BK109 := n0_
           have HB := n1_
           clear n0_ n1_
           have p111 : 0 ≤ ((ji8) : Int) := of_decide_eq_true asz
           have q111 : (ji8) < (l0.length : Int) := of_decide_eq_true asz
           obtain ⟨ad111, e111, hx111_0, hx111_1⟩ := at_T46 HR0.out (ji8) p111 q111
           have hw111_1 := hx111_1
           have hw111_0 := hx111_0
           obtain rfl : ad108 = ad111 := (by injection e111)
           replace hx111_0 := (HB.out.cell (World.block_lt_of_cell? w _ hx111_0)).trans hx111_0
           replace hx111_1 := (HB.out.cell (World.block_lt_of_cell? w _ hx111_1)).trans hx111_1
           replace p111 := eq_true p111
           replace q111 := eq_true q111
           refine start_ (n := 18) (S := fun w' => w'.cell? ⟨gb109, 0, none⟩ = some (.int .i64 ((rd_T46 l0 x7_1).f0)) ∧ w'.cell? ⟨gb109, 1, none⟩ = some (.int .i64 ((rd_T46 l0 x7_1).f1)) ∧ w'.cell? (ad108.add (((ji8)).toNat * 2)) = some (.int .i64 ((rd_T46 l0 (ji8)).f0)) ∧ w'.cell? ⟨(ad108.add (((ji8)).toNat * 2)).block, (ad108.add (((ji8)).toNat * 2)).off + 1, none⟩ = some (.int .i64 ((rd_T46 l0 (ji8)).f1))) (ds := []) #[false, false, false, false, false, false, false, false, false, false, false, false, false, false, false, false, false, false] (by kernel_rfl) rfl rfl ⟨(blk_cell BK109.out 0).trans rfl, (blk_cell BK109.out 1).trans rfl, ((HB.out.cell (World.block_lt_of_cell? w _ hw111_0)).trans hw111_0), ((HB.out.cell (World.block_lt_of_cell? w _ hw111_1)).trans hw111_1)⟩ (fun hHeld => ?_); refine with_tabW mast_Valid.tab4 mast_Valid.bits4 (fun HT_ HW_ => ?_)
           generalize w14.drew = w15 at BK109 HB hx111_0 hx111_1 hHeld ⊢
           refine tst4 (i := 0) (N := some 12) (bz 18 1) (take_ofW HT_.out HW_.out (by kernel_rfl)) hHeld ?_
           refine one_ (i := 1) (N := some 13) #[true, true, false, false, false, false, false, false, false, false, false, false, false, false, false, false, false, false] rfl rfl (one_of HT_.out (by kernel_rfl)) (by decide) (fun K hK => ?_)
           refine goes_ Tryd.func69 (by kernel_rfl) rfl #[.agg #[.int .i64 ((rd_T46 l0 x7_1).f0), .int .i64 ((rd_T46 l0 x7_1).f1)]] (by rfl) rfl rfl mapz ?_
           with_reducible refine (mast_isStretch.calls ((rd_T46 l0 x7_1).f0) ((rd_T46 l0 x7_1).f1) true _ A5.out).mono ?_
           rintro e w16 ⟨rfl, hb⟩
           refine ⟨_, rfl, ?_⟩
           have n0_ := Aside0.mk (blk_below (g := gb109) blkz hb)
           have n1_ := Aside0.mk (below_step bel hb)
           clear BK109
           clear HB
           have BK109 := n0_
           have HB := n1_
           clear n0_ n1_
           (try clear hb)
           (try clear hb2)
           (try clear hk)
           (try clear hi)
           refine hK.out _ _ ⟨(blk_cell BK109.out 0).trans rfl, (blk_cell BK109.out 1).trans rfl, ((HB.out.cell (World.block_lt_of_cell? w _ hw111_0)).trans hw111_0), ((HB.out.cell (World.block_lt_of_cell? w _ hw111_1)).trans hw111_1)⟩ (fun hHeld => ?_)
           clear hK K
           refine norm_ (a' := ?_) ?_ ?_
           rotate_left
           ·
            show Act.put _ (some 13) _ = _
            simp only [Act.put, List.setIfInBounds_toArray, List.set_cons_zero, List.set_cons_succ, i64_w, i32_w]
            rfl
           refine pst (i := 2) (N := some 14) (bz 18 7) (any_of HT_.out (by kernel_rfl)) ?_
           refine pst (i := 3) (N := some 15) (bz 18 15) (any_of HT_.out (by kernel_rfl)) ?_
           refine pst (i := 4) (N := some 16) (bz 18 31) (any_of HT_.out (by kernel_rfl)) ?_
           refine pst (i := 5) (N := some 17) (bz 18 63) (any_of HT_.out (by kernel_rfl)) ?_
           refine pst (i := 6) (N := some 18) (bz 18 127) (any_of HT_.out (by kernel_rfl)) ?_
           refine pst (i := 7) (N := some 19) (bz 18 255) (any_of HT_.out (by kernel_rfl)) ?_
           refine pst (i := 9) (N := some 21) (bz 18 767) (any_of HT_.out (by kernel_rfl)) ?_
           refine pst (i := 10) (N := some 22) (bz 18 1791) (any_of HT_.out (by kernel_rfl)) ?_
           refine pst (i := 11) (N := some 23) (bz 18 3839) (any_of HT_.out (by kernel_rfl)) ?_
           refine pst (i := 12) (N := some 24) (bz 18 7935) (any_of HT_.out (by kernel_rfl)) ?_
           refine pst (i := 13) (N := some 25) (bz 18 16127) (any_of HT_.out (by kernel_rfl)) ?_
           refine tst4 (i := 8) (N := some 20) (bz 18 16383) (take_ofW HT_.out HW_.out (by kernel_rfl)) hHeld ?_
           refine tst4 (i := 14) (N := some 26) (bz 18 32767) (take_ofW HT_.out HW_.out (by kernel_rfl)) hHeld ?_
           refine pst (i := 15) (N := some 27) (bz 18 65535) (any_of HT_.out (by kernel_rfl)) ?_
           refine pst (i := 16) (N := some 28) (bz 18 131071) (any_of HT_.out (by kernel_rfl)) ?_
           refine pst (i := 17) (N := some 29) (bz 18 262143) (any_of HT_.out (by kernel_rfl)) ?_
           refine done_ (done_of HT_.out (by kernel_rfl)) ?_
           try go_wp2
           go_ret
           exact ⟨by first | rfl | (simp [errW_none, errW_some] <;> rfl) | (simp only [← hji8]; first | rfl | (simp [errW_none, errW_some] <;> rfl)) | (simp [*, errW_none, errW_some] <;> rfl), bel⟩
          ·
           rw [if_neg c11] at H
           have c11b0 : decide (((rd_T46 l0 x7_1).f0) ≤ ((rd_T46 l0 (ji8)).f1)) = false := decide_eq_false c11
           clear c11
           have H' := Aside0.mk H
           clear H
           have p108 : 0 ≤ (x7_1 : Int) := of_decide_eq_true asz
           have q108 : x7_1 < (l0.length : Int) := of_decide_eq_true asz
           obtain ⟨ad108, e108, hx108_0, hx108_1⟩ := at_T46 HR0.out x7_1 p108 q108
           cases e108
           replace hx108_0 := (HB.out.cell (World.block_lt_of_cell? w _ hx108_0)).trans hx108_0
           replace hx108_1 := (HB.out.cell (World.block_lt_of_cell? w _ hx108_1)).trans hx108_1
           replace p108 := eq_true p108
           replace q108 := eq_true q108
           try go_wp2_with (first | ((with_reducible refine gate_dst (N := 4) rfl ?_); refine box_event ?hg (N := 4) ?hd (cs := #[.int .i64 0, .int .i64 0]) (t := 46) ?hr ?_; (case hd => rfl); (case hg => rfl); (case hr => first | (go_simp; done) | (go_simp; rfl)); intro gb109 hg w17 hbox hb; have BK109 := Aside0.mk (hbox); have GW109 := bsz (w := w) hg; have GE109 := GW109; replace HB := Aside0.mk (below_step bel hb); clear hb hbox hg; obtain ⟨hcz18_0, hcz18_1⟩ := bc2 BK109.out; obtain ⟨hfz18_0, hfz18_1⟩ := bf2 BK109.out))
           have n0_ : Aside0 (((w17.setCell ⟨gb109, 0, none⟩ (.int .i64 ((rd_T46 l0 x7_1).f0))).setCell ⟨gb109, 1, none⟩ (.int .i64 ((rd_T46 l0 x7_1).f1))).heap[gb109]? = some (.cells #[.int .i64 ((rd_T46 l0 x7_1).f0), .int .i64 ((rd_T46 l0 x7_1).f1)] 46 (0, 0))) := ⟨by (with_reducible repeat (first | refine blk_drewN ?_ _ | refine blk_drew ?_ | refine blk_alloc ?_ _)); refine blk_put (cs := #[.int .i64 ((rd_T46 l0 x7_1).f0), .int .i64 0]) ?_ 1 _ rfl; (with_reducible repeat (first | refine blk_drewN ?_ _ | refine blk_drew ?_ | refine blk_alloc ?_ _)); refine blk_put (cs := #[.int .i64 0, .int .i64 0]) ?_ 0 _ rfl; (with_reducible repeat (first | refine blk_drewN ?_ _ | refine blk_drew ?_ | refine blk_alloc ?_ _)); exact BK109.out⟩
           have n1_ : Aside0 (Below w.heap.size w ((w17.setCell ⟨gb109, 0, none⟩ (.int .i64 ((rd_T46 l0 x7_1).f0))).setCell ⟨gb109, 1, none⟩ (.int .i64 ((rd_T46 l0 x7_1).f1)))) := ⟨bel⟩
           (try clear BK109)
           (try clear HB)
           generalize ((w17.setCell ⟨gb109, 0, none⟩ (.int .i64 ((rd_T46 l0 x7_1).f0))).setCell ⟨gb109, 1, none⟩ (.int .i64 ((rd_T46 l0 x7_1).f1))) = w19 at n0_ n1_ ⊢
           have BK109 := n0_
           have HB := n1_
           clear n0_ n1_
           have n0_ := Aside0.mk (blk_drew BK109.out)
           have n1_ := Aside0.mk (below_drew1 HB.out)
           clear BK109
           clear HB
           have BK109 := n0_
           have HB := n1_
           clear n0_ n1_
           have p111 : 0 ≤ ((ji8) : Int) := of_decide_eq_true asz
           have q111 : (ji8) < (l0.length : Int) := of_decide_eq_true asz
           obtain ⟨ad111, e111, hx111_0, hx111_1⟩ := at_T46 HR0.out (ji8) p111 q111
           have hw111_1 := hx111_1
           have hw111_0 := hx111_0
           obtain rfl : ad108 = ad111 := (by injection e111)
           replace hx111_0 := (HB.out.cell (World.block_lt_of_cell? w _ hx111_0)).trans hx111_0
           replace hx111_1 := (HB.out.cell (World.block_lt_of_cell? w _ hx111_1)).trans hx111_1
           replace p111 := eq_true p111
           replace q111 := eq_true q111
           refine start_ (n := 18) (S := fun w' => w'.cell? ⟨gb109, 0, none⟩ = some (.int .i64 ((rd_T46 l0 x7_1).f0)) ∧ w'.cell? ⟨gb109, 1, none⟩ = some (.int .i64 ((rd_T46 l0 x7_1).f1)) ∧ w'.cell? (ad108.add (((ji8)).toNat * 2)) = some (.int .i64 ((rd_T46 l0 (ji8)).f0)) ∧ w'.cell? ⟨(ad108.add (((ji8)).toNat * 2)).block, (ad108.add (((ji8)).toNat * 2)).off + 1, none⟩ = some (.int .i64 ((rd_T46 l0 (ji8)).f1))) (ds := []) #[false, false, false, false, false, false, false, false, false, false, false, false, false, false, false, false, false, false] (by kernel_rfl) rfl rfl ⟨(blk_cell BK109.out 0).trans rfl, (blk_cell BK109.out 1).trans rfl, ((HB.out.cell (World.block_lt_of_cell? w _ hw111_0)).trans hw111_0), ((HB.out.cell (World.block_lt_of_cell? w _ hw111_1)).trans hw111_1)⟩ (fun hHeld => ?_); refine with_tabW mast_Valid.tab4 mast_Valid.bits4 (fun HT_ HW_ => ?_)
           generalize w19.drew = w20 at BK109 HB hx111_0 hx111_1 hHeld ⊢
           refine tst4 (i := 0) (N := some 12) (bz 18 1) (take_ofW HT_.out HW_.out (by kernel_rfl)) hHeld ?_
           refine one_ (i := 1) (N := some 13) #[true, true, false, false, false, false, false, false, false, false, false, false, false, false, false, false, false, false] rfl rfl (one_of HT_.out (by kernel_rfl)) (by decide) (fun K hK => ?_)
           refine goes_ Tryd.func69 (by kernel_rfl) rfl #[.agg #[.int .i64 ((rd_T46 l0 x7_1).f0), .int .i64 ((rd_T46 l0 x7_1).f1)]] (by rfl) rfl rfl mapz ?_
           with_reducible refine (mast_isStretch.calls ((rd_T46 l0 x7_1).f0) ((rd_T46 l0 x7_1).f1) true _ A5.out).mono ?_
           rintro e w21 ⟨rfl, hb⟩
           refine ⟨_, rfl, ?_⟩
           have n0_ := Aside0.mk (blk_below (g := gb109) blkz hb)
           have n1_ := Aside0.mk (below_step bel hb)
           clear BK109
           clear HB
           have BK109 := n0_
           have HB := n1_
           clear n0_ n1_
           (try clear hb)
           (try clear hb2)
           (try clear hk)
           (try clear hi)
           refine hK.out _ _ ⟨(blk_cell BK109.out 0).trans rfl, (blk_cell BK109.out 1).trans rfl, ((HB.out.cell (World.block_lt_of_cell? w _ hw111_0)).trans hw111_0), ((HB.out.cell (World.block_lt_of_cell? w _ hw111_1)).trans hw111_1)⟩ (fun hHeld => ?_)
           clear hK K
           refine norm_ (a' := ?_) ?_ ?_
           rotate_left
           ·
            show Act.put _ (some 13) _ = _
            simp only [Act.put, List.setIfInBounds_toArray, List.set_cons_zero, List.set_cons_succ, i64_w, i32_w]
            rfl
           refine pst (i := 2) (N := some 14) (bz 18 7) (any_of HT_.out (by kernel_rfl)) ?_
           refine pst (i := 3) (N := some 15) (bz 18 15) (any_of HT_.out (by kernel_rfl)) ?_
           refine pst (i := 4) (N := some 16) (bz 18 31) (any_of HT_.out (by kernel_rfl)) ?_
           refine pst (i := 5) (N := some 17) (bz 18 63) (any_of HT_.out (by kernel_rfl)) ?_
           refine pst (i := 6) (N := some 18) (bz 18 127) (any_of HT_.out (by kernel_rfl)) ?_
           refine pst (i := 7) (N := some 19) (bz 18 255) (any_of HT_.out (by kernel_rfl)) ?_
           refine pst (i := 9) (N := some 21) (bz 18 767) (any_of HT_.out (by kernel_rfl)) ?_
           refine pst (i := 10) (N := some 22) (bz 18 1791) (any_of HT_.out (by kernel_rfl)) ?_
           refine pst (i := 11) (N := some 23) (bz 18 3839) (any_of HT_.out (by kernel_rfl)) ?_
           refine pst (i := 12) (N := some 24) (bz 18 7935) (any_of HT_.out (by kernel_rfl)) ?_
           refine pst (i := 13) (N := some 25) (bz 18 16127) (any_of HT_.out (by kernel_rfl)) ?_
           refine tst4 (i := 8) (N := some 20) (bz 18 16383) (take_ofW HT_.out HW_.out (by kernel_rfl)) hHeld ?_
           refine tst4 (i := 14) (N := some 26) (bz 18 32767) (take_ofW HT_.out HW_.out (by kernel_rfl)) hHeld ?_
           refine pst (i := 15) (N := some 27) (bz 18 65535) (any_of HT_.out (by kernel_rfl)) ?_
           refine pst (i := 16) (N := some 28) (bz 18 131071) (any_of HT_.out (by kernel_rfl)) ?_
           refine pst (i := 17) (N := some 29) (bz 18 262143) (any_of HT_.out (by kernel_rfl)) ?_
           refine done_ (done_of HT_.out (by kernel_rfl)) ?_
           try go_wp2
           go_roundg k1
           case measure => have := HK1.out; omega
           case rel => exact ⟨(wrap64 (x7_1 + 1)), rsz, H', ⟨by have := HK1.out; omega⟩, ⟨bel⟩⟩
         ·
          rw [if_neg c10] at H
          exact absurd H (by simp)
        ·
         rw [if_neg c9] at H
         exact absurd H (by simp)
       ·
        rw [if_neg c7] at H
        have c7b0 : decide (0 < x7_1) = false := decide_eq_false c7
        clear c7
        have H' := Aside0.mk H
        clear H
        have p108 : 0 ≤ (x7_1 : Int) := of_decide_eq_true asz
        have q108 : x7_1 < (l0.length : Int) := of_decide_eq_true asz
        obtain ⟨ad108, e108, hx108_0, hx108_1⟩ := at_T46 HR0.out x7_1 p108 q108
        cases e108
        replace hx108_0 := (HB.out.cell (World.block_lt_of_cell? w _ hx108_0)).trans hx108_0
        replace hx108_1 := (HB.out.cell (World.block_lt_of_cell? w _ hx108_1)).trans hx108_1
        replace p108 := eq_true p108
        replace q108 := eq_true q108
        try go_wp2_with (first | ((with_reducible refine gate_dst (N := 4) rfl ?_); refine box_event ?hg (N := 4) ?hd (cs := #[.int .i64 0, .int .i64 0]) (t := 46) ?hr ?_; (case hd => rfl); (case hg => rfl); (case hr => first | (go_simp; done) | (go_simp; rfl)); intro gb109 hg w22 hbox hb; have BK109 := Aside0.mk (hbox); have GW109 := bsz (w := w) hg; have GE109 := GW109; replace HB := Aside0.mk (below_step bel hb); clear hb hbox hg; obtain ⟨hcz23_0, hcz23_1⟩ := bc2 BK109.out; obtain ⟨hfz23_0, hfz23_1⟩ := bf2 BK109.out))
        have n0_ : Aside0 (((w22.setCell ⟨gb109, 0, none⟩ (.int .i64 ((rd_T46 l0 x7_1).f0))).setCell ⟨gb109, 1, none⟩ (.int .i64 ((rd_T46 l0 x7_1).f1))).heap[gb109]? = some (.cells #[.int .i64 ((rd_T46 l0 x7_1).f0), .int .i64 ((rd_T46 l0 x7_1).f1)] 46 (0, 0))) := ⟨by (with_reducible repeat (first | refine blk_drewN ?_ _ | refine blk_drew ?_ | refine blk_alloc ?_ _)); refine blk_put (cs := #[.int .i64 ((rd_T46 l0 x7_1).f0), .int .i64 0]) ?_ 1 _ rfl; (with_reducible repeat (first | refine blk_drewN ?_ _ | refine blk_drew ?_ | refine blk_alloc ?_ _)); refine blk_put (cs := #[.int .i64 0, .int .i64 0]) ?_ 0 _ rfl; (with_reducible repeat (first | refine blk_drewN ?_ _ | refine blk_drew ?_ | refine blk_alloc ?_ _)); exact BK109.out⟩
        have n1_ : Aside0 (Below w.heap.size w ((w22.setCell ⟨gb109, 0, none⟩ (.int .i64 ((rd_T46 l0 x7_1).f0))).setCell ⟨gb109, 1, none⟩ (.int .i64 ((rd_T46 l0 x7_1).f1)))) := ⟨bel⟩
        (try clear BK109)
        (try clear HB)
        generalize ((w22.setCell ⟨gb109, 0, none⟩ (.int .i64 ((rd_T46 l0 x7_1).f0))).setCell ⟨gb109, 1, none⟩ (.int .i64 ((rd_T46 l0 x7_1).f1))) = w24 at n0_ n1_ ⊢
        have BK109 := n0_
        have HB := n1_
        clear n0_ n1_
        have n0_ := Aside0.mk (blk_drew BK109.out)
        have n1_ := Aside0.mk (below_drew1 HB.out)
        clear BK109
        clear HB
        have BK109 := n0_
        have HB := n1_
        clear n0_ n1_
        refine start_ (n := 18) (S := fun w' => w'.cell? ⟨gb109, 0, none⟩ = some (.int .i64 ((rd_T46 l0 x7_1).f0)) ∧ w'.cell? ⟨gb109, 1, none⟩ = some (.int .i64 ((rd_T46 l0 x7_1).f1))) (ds := []) #[false, false, false, false, false, false, false, false, false, false, false, false, false, false, false, false, false, false] (by kernel_rfl) rfl rfl ⟨(blk_cell BK109.out 0).trans rfl, (blk_cell BK109.out 1).trans rfl⟩ (fun hHeld => ?_); refine with_tabW mast_Valid.tab4 mast_Valid.bits4 (fun HT_ HW_ => ?_)
        generalize w24.drew = w25 at BK109 HB hHeld ⊢
        refine tst2 (i := 0) (N := some 12) (bz 18 1) (take_ofW HT_.out HW_.out (by kernel_rfl)) hHeld ?_
        refine one_ (i := 1) (N := some 13) #[true, true, false, false, false, false, false, false, false, false, false, false, false, false, false, false, false, false] rfl rfl (one_of HT_.out (by kernel_rfl)) (by decide) (fun K hK => ?_)
        refine goes_ Tryd.func69 (by kernel_rfl) rfl #[.agg #[.int .i64 ((rd_T46 l0 x7_1).f0), .int .i64 ((rd_T46 l0 x7_1).f1)]] (by rfl) rfl rfl mapz ?_
        with_reducible refine (mast_isStretch.calls ((rd_T46 l0 x7_1).f0) ((rd_T46 l0 x7_1).f1) true _ A5.out).mono ?_
        rintro e w26 ⟨rfl, hb⟩
        refine ⟨_, rfl, ?_⟩
        have n0_ := Aside0.mk (blk_below (g := gb109) blkz hb)
        have n1_ := Aside0.mk (below_step bel hb)
        clear BK109
        clear HB
        have BK109 := n0_
        have HB := n1_
        clear n0_ n1_
        (try clear hb)
        (try clear hb2)
        (try clear hk)
        (try clear hi)
        refine hK.out _ _ ⟨(blk_cell BK109.out 0).trans rfl, (blk_cell BK109.out 1).trans rfl⟩ (fun hHeld => ?_)
        clear hK K
        refine norm_ (a' := ?_) ?_ ?_
        rotate_left
        ·
         show Act.put _ (some 13) _ = _
         simp only [Act.put, List.setIfInBounds_toArray, List.set_cons_zero, List.set_cons_succ, i64_w, i32_w]
         rfl
        refine pst (i := 2) (N := some 14) (bz 18 7) (any_of HT_.out (by kernel_rfl)) ?_
        refine pst (i := 3) (N := some 15) (bz 18 15) (any_of HT_.out (by kernel_rfl)) ?_
        refine pst (i := 4) (N := some 16) (bz 18 31) (any_of HT_.out (by kernel_rfl)) ?_
        refine pst (i := 5) (N := some 17) (bz 18 63) (any_of HT_.out (by kernel_rfl)) ?_
        refine pst (i := 6) (N := some 18) (bz 18 127) (any_of HT_.out (by kernel_rfl)) ?_
        refine pso (i := 7) (N := some 19) (bz 18 255) (any_of HT_.out (by kernel_rfl)) ?_
        refine pso (i := 8) (N := some 20) (bz 18 511) (any_of HT_.out (by kernel_rfl)) ?_
        refine pso (i := 9) (N := some 21) (bz 18 1023) (any_of HT_.out (by kernel_rfl)) ?_
        refine pso (i := 10) (N := some 22) (bz 18 2047) (any_of HT_.out (by kernel_rfl)) ?_
        refine pso (i := 11) (N := some 23) (bz 18 4095) (any_of HT_.out (by kernel_rfl)) ?_
        refine pso (i := 12) (N := some 24) (bz 18 8191) (any_of HT_.out (by kernel_rfl)) ?_
        refine pso (i := 13) (N := some 25) (bz 18 16383) (any_of HT_.out (by kernel_rfl)) ?_
        refine pso (i := 14) (N := some 26) (bz 18 32767) (any_of HT_.out (by kernel_rfl)) ?_
        refine pso (i := 15) (N := some 27) (bz 18 65535) (any_of HT_.out (by kernel_rfl)) ?_
        refine pst (i := 16) (N := some 28) (bz 18 131071) (any_of HT_.out (by kernel_rfl)) ?_
        refine pst (i := 17) (N := some 29) (bz 18 262143) (any_of HT_.out (by kernel_rfl)) ?_
        refine done_ (done_of HT_.out (by kernel_rfl)) ?_
        try go_wp2
        go_roundg k1
        case measure => have := HK1.out; omega
        case rel => exact ⟨(wrap64 (x7_1 + 1)), rsz, H', ⟨by have := HK1.out; omega⟩, ⟨bel⟩⟩
      ·
       replace c6 := Bool.eq_false_iff.mpr c6
       subst c6
       rw [if_neg (show ¬ (false = true) by decide)] at H
       obtain rfl := Option.some.inj H
       have p108 : 0 ≤ (x7_1 : Int) := of_decide_eq_true asz
       have q108 : x7_1 < (l0.length : Int) := of_decide_eq_true asz
       obtain ⟨ad108, e108, hx108_0, hx108_1⟩ := at_T46 HR0.out x7_1 p108 q108
       cases e108
       replace hx108_0 := (HB.out.cell (World.block_lt_of_cell? w _ hx108_0)).trans hx108_0
       replace hx108_1 := (HB.out.cell (World.block_lt_of_cell? w _ hx108_1)).trans hx108_1
       replace p108 := eq_true p108
       replace q108 := eq_true q108
       try go_wp2_with (first | ((with_reducible refine gate_dst (N := 4) rfl ?_); refine box_event ?hg (N := 4) ?hd (cs := #[.int .i64 0, .int .i64 0]) (t := 46) ?hr ?_; (case hd => rfl); (case hg => rfl); (case hr => first | (go_simp; done) | (go_simp; rfl)); intro gb109 hg w27 hbox hb; have BK109 := Aside0.mk (hbox); have GW109 := bsz (w := w) hg; have GE109 := GW109; replace HB := Aside0.mk (below_step bel hb); clear hb hbox hg; obtain ⟨hcz28_0, hcz28_1⟩ := bc2 BK109.out; obtain ⟨hfz28_0, hfz28_1⟩ := bf2 BK109.out))
       have n0_ : Aside0 (((w27.setCell ⟨gb109, 0, none⟩ (.int .i64 ((rd_T46 l0 x7_1).f0))).setCell ⟨gb109, 1, none⟩ (.int .i64 ((rd_T46 l0 x7_1).f1))).heap[gb109]? = some (.cells #[.int .i64 ((rd_T46 l0 x7_1).f0), .int .i64 ((rd_T46 l0 x7_1).f1)] 46 (0, 0))) := ⟨by (with_reducible repeat (first | refine blk_drewN ?_ _ | refine blk_drew ?_ | refine blk_alloc ?_ _)); refine blk_put (cs := #[.int .i64 ((rd_T46 l0 x7_1).f0), .int .i64 0]) ?_ 1 _ rfl; (with_reducible repeat (first | refine blk_drewN ?_ _ | refine blk_drew ?_ | refine blk_alloc ?_ _)); refine blk_put (cs := #[.int .i64 0, .int .i64 0]) ?_ 0 _ rfl; (with_reducible repeat (first | refine blk_drewN ?_ _ | refine blk_drew ?_ | refine blk_alloc ?_ _)); exact BK109.out⟩
       have n1_ : Aside0 (Below w.heap.size w ((w27.setCell ⟨gb109, 0, none⟩ (.int .i64 ((rd_T46 l0 x7_1).f0))).setCell ⟨gb109, 1, none⟩ (.int .i64 ((rd_T46 l0 x7_1).f1)))) := ⟨bel⟩
       (try clear BK109)
       (try clear HB)
       generalize ((w27.setCell ⟨gb109, 0, none⟩ (.int .i64 ((rd_T46 l0 x7_1).f0))).setCell ⟨gb109, 1, none⟩ (.int .i64 ((rd_T46 l0 x7_1).f1))) = w29 at n0_ n1_ ⊢
       have BK109 := n0_
       have HB := n1_
       clear n0_ n1_
       have n0_ := Aside0.mk (blk_drew BK109.out)
       have n1_ := Aside0.mk (below_drew1 HB.out)
       clear BK109
       clear HB
       have BK109 := n0_
       have HB := n1_
       clear n0_ n1_
       refine start_ (n := 18) (S := fun w' => w'.cell? ⟨gb109, 0, none⟩ = some (.int .i64 ((rd_T46 l0 x7_1).f0)) ∧ w'.cell? ⟨gb109, 1, none⟩ = some (.int .i64 ((rd_T46 l0 x7_1).f1))) (ds := []) #[false, false, false, false, false, false, false, false, false, false, false, false, false, false, false, false, false, false] (by kernel_rfl) rfl rfl ⟨(blk_cell BK109.out 0).trans rfl, (blk_cell BK109.out 1).trans rfl⟩ (fun hHeld => ?_); refine with_tabW mast_Valid.tab4 mast_Valid.bits4 (fun HT_ HW_ => ?_)
       generalize w29.drew = w30 at BK109 HB hHeld ⊢
       refine tst2 (i := 0) (N := some 12) (bz 18 1) (take_ofW HT_.out HW_.out (by kernel_rfl)) hHeld ?_
       refine one_ (i := 1) (N := some 13) #[true, true, false, false, false, false, false, false, false, false, false, false, false, false, false, false, false, false] rfl rfl (one_of HT_.out (by kernel_rfl)) (by decide) (fun K hK => ?_)
       refine goes_ Tryd.func69 (by kernel_rfl) rfl #[.agg #[.int .i64 ((rd_T46 l0 x7_1).f0), .int .i64 ((rd_T46 l0 x7_1).f1)]] (by rfl) rfl rfl mapz ?_
       with_reducible refine (mast_isStretch.calls ((rd_T46 l0 x7_1).f0) ((rd_T46 l0 x7_1).f1) false _ A5.out).mono ?_
       rintro e w31 ⟨rfl, hb⟩
       refine ⟨_, rfl, ?_⟩
       have n0_ := Aside0.mk (blk_below (g := gb109) blkz hb)
       have n1_ := Aside0.mk (below_step bel hb)
       clear BK109
       clear HB
       have BK109 := n0_
       have HB := n1_
       clear n0_ n1_
       (try clear hb)
       (try clear hb2)
       (try clear hk)
       (try clear hi)
       refine hK.out _ _ ⟨(blk_cell BK109.out 0).trans rfl, (blk_cell BK109.out 1).trans rfl⟩ (fun hHeld => ?_)
       clear hK K
       refine norm_ (a' := ?_) ?_ ?_
       rotate_left
       ·
        show Act.put _ (some 13) _ = _
        simp only [Act.put, List.setIfInBounds_toArray, List.set_cons_zero, List.set_cons_succ, i64_w, i32_w]
        rfl
       refine pst (i := 2) (N := some 14) (bz 18 7) (any_of HT_.out (by kernel_rfl)) ?_
       refine pst (i := 3) (N := some 15) (bz 18 15) (any_of HT_.out (by kernel_rfl)) ?_
       refine pso (i := 4) (N := some 16) (bz 18 31) (any_of HT_.out (by kernel_rfl)) ?_
       refine pso (i := 5) (N := some 17) (bz 18 63) (any_of HT_.out (by kernel_rfl)) ?_
       refine pso (i := 6) (N := some 18) (bz 18 127) (any_of HT_.out (by kernel_rfl)) ?_
       refine pso (i := 7) (N := some 19) (bz 18 255) (any_of HT_.out (by kernel_rfl)) ?_
       refine pso (i := 8) (N := some 20) (bz 18 511) (any_of HT_.out (by kernel_rfl)) ?_
       refine pso (i := 9) (N := some 21) (bz 18 1023) (any_of HT_.out (by kernel_rfl)) ?_
       refine pso (i := 10) (N := some 22) (bz 18 2047) (any_of HT_.out (by kernel_rfl)) ?_
       refine pso (i := 11) (N := some 23) (bz 18 4095) (any_of HT_.out (by kernel_rfl)) ?_
       refine pso (i := 12) (N := some 24) (bz 18 8191) (any_of HT_.out (by kernel_rfl)) ?_
       refine pso (i := 13) (N := some 25) (bz 18 16383) (any_of HT_.out (by kernel_rfl)) ?_
       refine pso (i := 14) (N := some 26) (bz 18 32767) (any_of HT_.out (by kernel_rfl)) ?_
       refine pso (i := 15) (N := some 27) (bz 18 65535) (any_of HT_.out (by kernel_rfl)) ?_
       refine pso (i := 16) (N := some 28) (bz 18 131071) (any_of HT_.out (by kernel_rfl)) ?_
       refine pst (i := 17) (N := some 29) (bz 18 262143) (any_of HT_.out (by kernel_rfl)) ?_
       refine done_ (done_of HT_.out (by kernel_rfl)) ?_
       try go_wp2
       go_ret
       exact ⟨ezz, bel⟩
     ·
      rw [if_neg c4] at H
      exact absurd H (by simp)
    ·
     rw [if_neg c3] at H
     exact absurd H (by simp)
   ·
    rw [if_neg c2] at H
    have c2b0 : decide (x7_1 < (l0.length : Int)) = false := decide_eq_false c2
    clear c2
    obtain rfl := Option.some.inj H
    go_wp2
    go_ret
    exact ⟨ezz, bel⟩

/-! ### mast_find: function 53 -/
def mast_find.bs (l : List S46) (m : Int) : Nat → Nat → Nat → Option Nat
 | 0, _, _ => none
 | k + 1, i, j => if i < j then (if (rd_T46 l (((i + j) / 2 : Nat) : Int)).f1 ≤ m then mast_find.bs l m k ((i + j) / 2 + 1) j else mast_find.bs l m k i ((i + j) / 2)) else some i
set_option maxHeartbeats 2000000 in
set_option maxRecDepth 100000 in
theorem mast_find.clos (x : S46) (m : Int) (w : World) :
  Calls Tryd.prog 77 #[.agg #[.int .i64 x.f0, .int .i64 x.f1], .int .i64 m] w fun e w' => e = .returned (.int .i64 (if x.f1 ≤ m then -1 else 1)) ∧ Below w.heap.size w w' := by
 have hu := Tryd.underlying46
 have hB := Aside0.mk (below_alloc (Below.refl w.heap.size w) (.cells #[.int .i64 x.f0, .int .i64 x.f1] 46))
 by_cases h : x.f1 ≤ m
 ·
  have b : decide (x.f1 ≤ m) = true := decide_eq_true h
  rw [if_pos h]
  clear h
  go_enter Tryd.func77, Tryd.ntmps77
  go_wp2
  go_ret
  exact ⟨rfl, hB.out⟩
 ·
  have b : decide (x.f1 ≤ m) = false := decide_eq_false h
  rw [if_neg h]
  clear h
  go_enter Tryd.func77, Tryd.ntmps77
  go_wp2
  go_ret
  exact ⟨rfl, hB.out⟩
theorem mast_find.enter (vs : Array Value) (W : World) : (callFunc 77 vs).run Tryd.prog W = .ok (.enter 77 vs) W := enters_ Tryd.func77 (by kernel_rfl) (by kernel_rfl) vs W
def mast_find.f (l0 : List S46) (a1 : Int) : Option Int := if l0.length ≤ 1000000 then (mast_find.bs l0 a1 (l0.length + 1) 0 l0.length).map fun n : Nat => (n : Int) else none
set_option maxHeartbeats 4000000 in
set_option maxRecDepth 100000 in
theorem mast_find.search (A0 : Option Addr) (c0 : Nat) (l0 : List S46) (m : Int) (r : Nat) (w : World) (hr0 : Kd.C k46 w A0 l0.length l0) (hc0 : l0.length ≤ c0) (hl : l0.length ≤ 1000000) (h : mast_find.bs l0 m (l0.length + 1) 0 l0.length = some r) :
  Calls Tryd.prog 76 #[.slice A0 l0.length c0, .int .i64 m, .func (.func 77) #[] #[]] w fun e w' => e = .returned (.tuple #[.int .i64 r, .bool false]) ∧ Below w.heap.size w w' := by
 have HR := Aside0.mk hr0
 have H := Aside0.mk h
 have HL := Aside0.mk hl
 clear hr0 h hl
 go_enter Tryd.func76, Tryd.ntmps76
 go_wp2
 go_loopg [9, 10] (l0.length + 1) (fun kq v9 v10 w' => ∃ (i j : Nat), v9 = .int .i64 i ∧ v10 = .int .i64 j ∧ Aside0 (i ≤ j ∧ j ≤ l0.length) ∧ Aside0 (mast_find.bs l0 m kq i j = some r) ∧ Aside0 (Below w.heap.size w w'))
 case atStart => exact ⟨0, l0.length, rfl, rfl, ⟨by omega, by omega⟩, H, ⟨Below.refl _ _⟩⟩
 case round =>
  obtain ⟨i, j, rfl, rfl, HI, HS, HB⟩ := hrel
  have hs := HS.out
  obtain ⟨gn, hgn⟩ : ∃ gn, gk = gn + 1 := by
   cases gk with
   | zero => rw [mast_find.bs] at hs; cases hs
   | succ n => exact ⟨n, rfl⟩
  rw [hgn, mast_find.bs] at hs
  have HG := Aside0.mk hgn
  clear hgn HS
  by_cases hlt : i < j
  ·
   have b1 : (i < j) = True := eq_true hlt
   rw [if_pos hlt] at hs
   obtain ⟨hh, ehh⟩ : ∃ hh : Nat, hh = (i + j) / 2 := ⟨_, rfl⟩
   rw [← ehh] at hs
   have hij : i ≤ hh ∧ hh < j := by omega
   have hjl : j ≤ l0.length ∧ l0.length ≤ 1000000 := ⟨HI.out.2, HL.out⟩
   have e : wrap64 (IntKind.u64.wrap (wrap64 ((i : Int) + (j : Int))) / 2) = (hh : Int) := by
    have h1 : wrap64 ((i : Int) + (j : Int)) = (i : Int) + j := by unfold wrap64; omega
    have h2 : IntKind.u64.wrap ((i : Int) + (j : Int)) = (i : Int) + j := by rw [IntKind.wrap_u64]; omega
    rw [h1, h2]
    unfold wrap64
    omega
   have e3 : wrap64 ((hh : Int) + 1) = ((hh + 1 : Nat) : Int) := by unfold wrap64; omega
   obtain ⟨ad, e1, hx0, hx1⟩ := at_T46 (Kd.C_below HR.out HB.out) (hh : Int) (by omega) (by omega)
   cases e1
   simp only [Int.toNat_natCast] at hx0 hx1
   have p2 : (hh < l0.length) = True := eq_true (by omega)
   have HIJ := Aside0.mk hij
   clear hlt ehh hij hjl
   by_cases hm : (rd_T46 l0 (hh : Int)).f1 ≤ m
   ·
    rw [if_pos hm] at hs
    have HS := Aside0.mk hs
    have HM := Aside0.mk hm
    clear hs hm
    go_wp2_with (first | (go_simp; with_reducible refine (mast_find.clos (rd_T46 l0 (hh : Int)) m _).mono ?_; rintro e w1 ⟨rfl, hb⟩; have HB2 := Aside0.mk (below_step HB.out hb); clear hb; rw [if_pos HM.out]))
    go_roundg gn
    case measure => have := HG.out; omega
    case rel => exact ⟨hh + 1, j, by first | rfl | rw [e3], rfl, ⟨by have := HIJ.out; omega, HI.out.2⟩, HS, HB2⟩
   ·
    rw [if_neg hm] at hs
    have HS := Aside0.mk hs
    have HM := Aside0.mk hm
    clear hs hm
    go_wp2_with (first | (go_simp; with_reducible refine (mast_find.clos (rd_T46 l0 (hh : Int)) m _).mono ?_; rintro e w1 ⟨rfl, hb⟩; have HB2 := Aside0.mk (below_step HB.out hb); clear hb; rw [if_neg HM.out]))
    go_roundg gn
    case measure => have := HG.out; omega
    case rel => exact ⟨i, hh, rfl, rfl, ⟨by have := HIJ.out; omega, by have := HIJ.out; have := HI.out; omega⟩, HS, HB2⟩
  ·
   rw [if_neg hlt] at hs
   obtain rfl := Option.some.inj hs
   have b1 : (i < j) = False := eq_false hlt
   have hjl : j ≤ l0.length ∧ l0.length ≤ 1000000 := ⟨HI.out.2, HL.out⟩
   by_cases hin : i < l0.length
   ·
    have b2 : (i < l0.length) = True := eq_true hin
    obtain ⟨ad, e1, hx0, hx1⟩ := at_T46 (Kd.C_below HR.out HB.out) (i : Int) (by omega) (by omega)
    cases e1
    simp only [Int.toNat_natCast] at hx0 hx1
    clear hlt hjl hs hin
    by_cases hm : (rd_T46 l0 (i : Int)).f1 ≤ m
    ·
     have HM := Aside0.mk hm
     clear hm
     go_wp2_with (first | (go_simp; with_reducible refine (mast_find.clos (rd_T46 l0 (i : Int)) m _).mono ?_; rintro e w1 ⟨rfl, hb⟩; have HB2 := Aside0.mk (below_step HB.out hb); clear hb; rw [if_pos HM.out]))
     go_ret2
     exact ⟨rfl, HB2.out⟩
    ·
     have HM := Aside0.mk hm
     clear hm
     go_wp2_with (first | (go_simp; with_reducible refine (mast_find.clos (rd_T46 l0 (i : Int)) m _).mono ?_; rintro e w1 ⟨rfl, hb⟩; have HB2 := Aside0.mk (below_step HB.out hb); clear hb; rw [if_neg HM.out]))
     go_ret2
     exact ⟨rfl, HB2.out⟩
   ·
    have b2 : (i < l0.length) = False := eq_false hin
    clear hlt hjl hs hin
    go_wp2
    go_ret2
    exact ⟨rfl, HB.out⟩
set_option maxHeartbeats 2000000 in
set_option maxRecDepth 100000 in
theorem mast_find.calls (A0 : Option Addr) (c0 : Nat) (l0 : List S46) (a1 : Int) (r : Int) (w : World) (hr0 : Kd.C k46 w A0 l0.length l0) (hc0 : l0.length ≤ c0) (h : mast_find.f l0 a1 = some r) :
  Calls Tryd.prog 53 #[.slice A0 l0.length c0, .int .i64 a1] w fun e w' => e = .returned (.int .i64 r) ∧ Below w.heap.size w w' := by
 unfold mast_find.f at h
 by_cases hl : ¬ l0.length ≤ 1000000
 ·
  rw [if_neg hl] at h; cases h
 replace hl := Decidable.not_not.1 hl
 rw [if_pos hl] at h
 obtain ⟨n, hn, rfl⟩ := Option.map_eq_some_iff.1 h
 have HC := Aside0.mk (mast_find.search A0 c0 l0 a1 n w hr0 hc0 hl hn)
 clear hr0 h hn
 go_enter Tryd.func53, Tryd.ntmps53
 go_wp2_with (first | (go_at_call 76; refine HC.out.mono ?_; rintro e w1 ⟨rfl, hb⟩; have HB := Aside0.mk hb; clear hb))
 go_ret
 exact ⟨rfl, HB.out⟩

/-! ### mast_has: function 52 -/
def mast_has.f (l0 : List (S46)) (a1 : Int) : Option (Bool) := (mast_find.f l0 a1).bind fun t112 => (if t112 < (l0.length : Int) then (if 0 ≤ t112 then (some (decide (((rd_T46 l0 t112).f0) ≤ a1))) else (none)) else (some false))
set_option maxHeartbeats 8000000 in
set_option maxRecDepth 100000 in
theorem mast_has.calls (A0 : Option Addr) (c0 : Nat) (l0 : List (S46)) (a1 : Int) (r : Bool) (w : World) (hr0 : Kd.C k46 w A0 l0.length l0) (hc0 : l0.length ≤ c0) (h : mast_has.f l0 a1 = some r) :
  Calls Tryd.prog 52 #[.slice A0 l0.length c0, .int .i64 a1] w fun e w' => e = .returned (.bool r) ∧ Below w.heap.size w w' := by
 have HR0 := Aside0.mk hr0
 have HC0 := Aside0.mk hc0
 clear hr0 hc0
 have HB := Aside0.mk (Below.refl w.heap.size w)
 have H : ((mast_find.f l0 a1).bind fun t112 => (if t112 < (l0.length : Int) then (if 0 ≤ t112 then (some (decide (((rd_T46 l0 t112).f0) ≤ a1))) else (none)) else (some false))) = some r := h
 clear h
 replace H := Option.bind_eq_some_iff.mp H
 obtain ⟨t112, A30, H⟩ := H
 try dsimp only at H
 have A3 := Aside0.mk A30
 clear A30
 by_cases c4 : t112 < (l0.length : Int)
 ·
  rw [if_pos c4] at H
  have c4b0 : decide (t112 < (l0.length : Int)) = true := decide_eq_true c4
  clear c4
  by_cases c5 : 0 ≤ t112
  ·
   rw [if_pos c5] at H
   have c5b0 : decide (0 ≤ t112) = true := decide_eq_true c5
   clear c5
   obtain rfl := Option.some.inj H
   go_enter Tryd.func52, Tryd.ntmps52
   go_wp2_with (first | ((with_reducible refine gate_callee (f := 53) rfl ?_); refine goesL_ (some 8) rfl rfl Tryd.func53 (by kernel_rfl) rfl #[.slice A0 l0.length c0, .int .i64 a1] rfl mapz ?_; (with_reducible refine (mast_find.calls _ _ l0 a1 t112 _ ?side1 HC0.out A3.out).mono ?_); (case side1 => repeat (first | exact HR0.out | (with_reducible refine Kd.C_alloc ?_ _) | (with_reducible refine Kd.C_drewN ?_ _) | (with_reducible refine Kd.C_drew ?_))); rintro e w6 ⟨rfl, hb⟩; refine ⟨_, rfl, ?_⟩; replace HB := Aside0.mk (below_step bel hb); clear hb; have p113 : 0 ≤ (t112 : Int) := of_decide_eq_true asz; have q113 : t112 < (l0.length : Int) := of_decide_eq_true asz; obtain ⟨ad113, e113, hx113_0, hx113_1⟩ := at_T46 HR0.out t112 p113 q113; cases e113; replace hx113_0 := (HB.out.cell (World.block_lt_of_cell? w _ hx113_0)).trans hx113_0; replace hx113_1 := (HB.out.cell (World.block_lt_of_cell? w _ hx113_1)).trans hx113_1; replace p113 := eq_true p113; replace q113 := eq_true q113))
   go_ret
   exact ⟨ezz, bel⟩
  ·
   rw [if_neg c5] at H
   exact absurd H (by simp)
 ·
  rw [if_neg c4] at H
  have c4b0 : decide (t112 < (l0.length : Int)) = false := decide_eq_false c4
  clear c4
  obtain rfl := Option.some.inj H
  go_enter Tryd.func52, Tryd.ntmps52
  go_wp2_with (first | ((with_reducible refine gate_callee (f := 53) rfl ?_); refine goesL_ (some 8) rfl rfl Tryd.func53 (by kernel_rfl) rfl #[.slice A0 l0.length c0, .int .i64 a1] rfl mapz ?_; (with_reducible refine (mast_find.calls _ _ l0 a1 t112 _ ?side1 HC0.out A3.out).mono ?_); (case side1 => repeat (first | exact HR0.out | (with_reducible refine Kd.C_alloc ?_ _) | (with_reducible refine Kd.C_drewN ?_ _) | (with_reducible refine Kd.C_drew ?_))); rintro e w7 ⟨rfl, hb⟩; refine ⟨_, rfl, ?_⟩; replace HB := Aside0.mk (below_step bel hb); clear hb))
  go_ret
  exact ⟨ezz, bel⟩

/-! ### mast_Near: function 23 -/
def mast_Near.j0 : Nat → List (S46) → Int → Bool → Option (Int × Int)
 | 0, _, _, _ => none
 | k + 1, x0, x1, x11 => if x11 = true then (some (0, 2)) else (if (x0.length : Int) = 0 then (some (0, 5)) else ((mast_has.f x0 x1).bind fun t115 => (if t115 = true then (some (x1, 0)) else ((mast_find.f x0 x1).bind fun t116 => (if t116 = 0 then (if 0 < (x0.length : Int) then (some ((rd_T46 x0 0).f0, 0)) else (none)) else (if t116 = (x0.length : Int) then (if 0 ≤ (wrap64 (t116 - 1)) then (if (wrap64 (t116 - 1)) < (x0.length : Int) then (some (wrap64 (((rd_T46 x0 (wrap64 (t116 - 1))).f1) - 1), 0)) else (none)) else (none)) else (if 0 ≤ (wrap64 (t116 - 1)) then (if (wrap64 (t116 - 1)) < (x0.length : Int) then (if 0 ≤ t116 then (if t116 < (x0.length : Int) then (if (wrap64 (x1 - (wrap64 (((rd_T46 x0 (wrap64 (t116 - 1))).f1) - 1)))) ≤ (wrap64 (((rd_T46 x0 t116).f0) - x1)) then (some (wrap64 (((rd_T46 x0 (wrap64 (t116 - 1))).f1) - 1), 0)) else (some ((rd_T46 x0 t116).f0, 0))) else (none)) else (none)) else (none)) else (none))))))))
def mast_Near.f (k : Nat) (l0 : List (S46)) (a1 : Int) : Option (Int × Int) := (mast_Valid.f k l0).bind fun t114 => (if t114 = true then (if a1 < 0 then (mast_Near.j0 k l0 a1 true) else (mast_Near.j0 k l0 a1 (decide (a1 ≥ 100000)))) else (some (0, 10)))
theorem mast_Near.mono_l : ∀ k, (∀ y0 y1 y2, LeO (mast_Near.j0 k y0 y1 y2) (mast_Near.j0 (k + 1) y0 y1 y2))
 | 0 => fun _ _ _ r h => by simp [mast_Near.j0] at h
 | k + 1 => by
  have ih0 := mast_Near.mono_l k
  ·
   intro y0 y1 y2
   unfold mast_Near.j0
   repeat' first
   | (with_reducible exact ih0 _ _ _)
   | (with_reducible exact mast_Valid.mono _ _)
   | (with_reducible exact LeO.refl _)
   | (with_reducible exact LeO.none _)
   | (with_reducible refine LeO.ite ?_ ?_)
   | (with_reducible refine LeO.bind ?_ (fun _ => ?_))
   | exact ih0 _ _ _
   | exact mast_Valid.mono _ _
   | exact LeO.none _
   | refine LeO.ite ?_ ?_
   | refine LeO.bind ?_ (fun _ => ?_)
theorem mast_Near.mono : ∀ a0 a1 k, LeO (mast_Near.f k a0 a1) (mast_Near.f (k + 1) a0 a1) := by
 intro a0 a1 k
 have ih0 := mast_Near.mono_l k
 unfold mast_Near.f
 repeat' first
   | (with_reducible exact ih0 _ _ _)
   | (with_reducible exact mast_Valid.mono _ _)
   | (with_reducible exact LeO.refl _)
   | (with_reducible exact LeO.none _)
   | (with_reducible refine LeO.ite ?_ ?_)
   | (with_reducible refine LeO.bind ?_ (fun _ => ?_))
   | exact ih0 _ _ _
   | exact mast_Valid.mono _ _
   | exact LeO.none _
   | refine LeO.ite ?_ ?_
   | refine LeO.bind ?_ (fun _ => ?_)
set_option maxHeartbeats 8000000 in
set_option maxRecDepth 100000 in
theorem mast_Near.calls (k : Nat) (A0 : Option Addr) (c0 : Nat) (l0 : List (S46)) (a1 : Int) (r1 : Int) (r2 : Int) (w : World) (hr0 : Kd.C k46 w A0 l0.length l0) (hc0 : l0.length ≤ c0) (h : mast_Near.f k l0 a1 = some (r1, r2)) :
  Calls Tryd.prog 23 #[.slice A0 l0.length c0, .int .i64 a1] w fun e w' => e = .returned (.tuple #[.int .i64 r1, .int .i64 r2]) ∧ Below w.heap.size w w' := by
 have HR0 := Aside0.mk hr0
 have HC0 := Aside0.mk hc0
 clear hr0 hc0
 have HB := Aside0.mk (Below.refl w.heap.size w)
 have H : ((mast_Valid.f k l0).bind fun t114 => (if t114 = true then (if a1 < 0 then (mast_Near.j0 k l0 a1 true) else (mast_Near.j0 k l0 a1 (decide (a1 ≥ 100000)))) else (some (0, 10)))) = some (r1, r2) := h
 clear h
 replace H := Option.bind_eq_some_iff.mp H
 obtain ⟨t114, A30, H⟩ := H
 try dsimp only at H
 have A3 := Aside0.mk A30
 clear A30
 by_cases c4 : t114 = true
 ·
  subst c4
  rw [if_pos rfl] at H
  have HC5 := Aside0.mk H
  clear H
  go_enter Tryd.func23, Tryd.ntmps23
  go_upto_region 3 with (first | (go_at_call 50; (with_reducible refine (mast_Valid.calls k _ _ l0 true _ ?side1 HC0.out A3.out).mono ?_); (case side1 => repeat (first | exact HR0.out | (with_reducible refine Kd.C_alloc ?_ _) | (with_reducible refine Kd.C_drewN ?_ _) | (with_reducible refine Kd.C_drew ?_))); rintro e w6 ⟨rfl, hb⟩; replace HB := Aside0.mk (below_step bel hb); clear hb))
  repeat (go_quiet (first | (go_at_call 50; (with_reducible refine (mast_Valid.calls k _ _ l0 true _ ?side1 HC0.out A3.out).mono ?_); (case side1 => repeat (first | exact HR0.out | (with_reducible refine Kd.C_alloc ?_ _) | (with_reducible refine Kd.C_drewN ?_ _) | (with_reducible refine Kd.C_drew ?_))); rintro e w6 ⟨rfl, hb⟩; replace HB := Aside0.mk (below_step bel hb); clear hb)); go_upto_region 3 with (first | (go_at_call 50; (with_reducible refine (mast_Valid.calls k _ _ l0 true _ ?side1 HC0.out A3.out).mono ?_); (case side1 => repeat (first | exact HR0.out | (with_reducible refine Kd.C_alloc ?_ _) | (with_reducible refine Kd.C_drewN ?_ _) | (with_reducible refine Kd.C_drew ?_))); rintro e w6 ⟨rfl, hb⟩; replace HB := Aside0.mk (below_step bel hb); clear hb)))
  (try simp only [Act.put, List.setIfInBounds_toArray, List.set_cons_zero, List.set_cons_succ])
  go_cut [11] (fun v11 wc => ∃ (kq : Nat) (x11_4 : Bool), v11 = .bool x11_4 ∧ Aside0 (mast_Near.j0 kq l0 a1 x11_4 = some (r1, r2)) ∧ Aside0 (kq ≤ k) ∧ Aside0 (Below w.heap.size w wc))
  case first =>
   have H := HC5.out
   clear HC5
   by_cases c7 : a1 < 0
   ·
    rw [if_pos c7] at H
    have c7b0 : decide (a1 < 0) = true := decide_eq_true c7
    clear c7
    (first | rw [c7b0] | (simp only [i64_w, i32_w]; rw [c7b0]) | skip)
    have H' := Aside0.mk H
    clear H
    go_wp2
    repeat (go_quiet (fail); try go_wp2)
    go_meet
    case rel => exact ⟨_, (true), rsz, H', ⟨by first | omega | exact Nat.le_refl _⟩, ⟨bel⟩⟩
   ·
    rw [if_neg c7] at H
    have c7b0 : decide (a1 < 0) = false := decide_eq_false c7
    clear c7
    (first | rw [c7b0] | (simp only [i64_w, i32_w]; rw [c7b0]) | skip)
    have H' := Aside0.mk H
    clear H
    go_wp2
    repeat (go_quiet (fail); try go_wp2)
    go_meet
    case rel => exact ⟨_, (decide (a1 ≥ 100000)), rsz, H', ⟨by first | omega | exact Nat.le_refl _⟩, ⟨bel⟩⟩
  case rest =>
   clear HC5
   (try clear c2); (try clear p2); (try clear c4); (try clear c7); (try clear c7b0)
   obtain ⟨kq, x11_4, rfl, HA, HJ4, HB⟩ := hcut
   cases kq with
   | zero => exact absurd HA.out (by simp [mast_Near.j0])
   | succ kj4 =>
    have H := HA.out
    clear HA
    simp only [mast_Near.j0] at H
    by_cases c8 : x11_4 = true
    ·
     subst c8
     rw [if_pos rfl] at H
     simp only [Option.some.injEq, Prod.mk.injEq] at H
     obtain ⟨rfl, rfl⟩ := H
     go_wp2
     repeat (go_quiet (fail); try go_wp2)
     go_ret2
     exact ⟨ezz, bel⟩
    ·
     replace c8 := Bool.eq_false_iff.mpr c8
     subst c8
     rw [if_neg (show ¬ (false = true) by decide)] at H
     by_cases c9 : (l0.length : Int) = 0
     ·
      rw [if_pos c9] at H
      have c9b0 : ((l0.length : Int) == 0) = true := beq_iff_eq.mpr c9
      have c9b1 : ((l0.length : Int) != 0) = false := bne_eq_false_iff_eq.mpr c9
      clear c9
      simp only [Option.some.injEq, Prod.mk.injEq] at H
      obtain ⟨rfl, rfl⟩ := H
      go_wp2
      repeat (go_quiet (fail); try go_wp2)
      go_ret2
      exact ⟨ezz, bel⟩
     ·
      rw [if_neg c9] at H
      have c9b0 : ((l0.length : Int) == 0) = false := beq_eq_false_iff_ne.mpr c9
      have c9b1 : ((l0.length : Int) != 0) = true := bne_iff_ne.mpr c9
      have c9b2 : ¬ (l0 = []) := fun h_ => c9 (by rw [h_]; rfl)
      replace H := Option.bind_eq_some_iff.mp H
      obtain ⟨t115, A100, H⟩ := H
      try dsimp only at H
      have A10 := Aside0.mk A100
      clear A100
      by_cases c11 : t115 = true
      ·
       subst c11
       rw [if_pos rfl] at H
       simp only [Option.some.injEq, Prod.mk.injEq] at H
       obtain ⟨rfl, rfl⟩ := H
       go_wp2_with (first | (go_at_call 52; (with_reducible refine (mast_has.calls _ _ l0 a1 true _ (cbz HR0) HC0.out A10.out).mono ?_); rintro e w12 ⟨rfl, hb⟩; replace HB := Aside0.mk (below_step bel hb); clear hb))
       repeat (go_quiet (first | (go_at_call 52; (with_reducible refine (mast_has.calls _ _ l0 a1 true _ (cbz HR0) HC0.out A10.out).mono ?_); rintro e w12 ⟨rfl, hb⟩; replace HB := Aside0.mk (below_step bel hb); clear hb)); try go_wp2_with (first | (go_at_call 52; (with_reducible refine (mast_has.calls _ _ l0 a1 true _ (cbz HR0) HC0.out A10.out).mono ?_); rintro e w12 ⟨rfl, hb⟩; replace HB := Aside0.mk (below_step bel hb); clear hb)))
       go_ret2
       exact ⟨ezz, bel⟩
      ·
       replace c11 := Bool.eq_false_iff.mpr c11
       subst c11
       rw [if_neg (show ¬ (false = true) by decide)] at H
       replace H := Option.bind_eq_some_iff.mp H
       obtain ⟨t116, A130, H⟩ := H
       try dsimp only at H
       have A13 := Aside0.mk A130
       clear A130
       by_cases c14 : t116 = 0
       ·
        rw [if_pos c14] at H
        have c14b0 : (t116 == 0) = true := beq_iff_eq.mpr c14
        have c14b1 : (t116 != 0) = false := bne_eq_false_iff_eq.mpr c14
        clear c14
        by_cases c15 : 0 < (l0.length : Int)
        ·
         rw [if_pos c15] at H
         have c15b0 : decide (0 < (l0.length : Int)) = true := decide_eq_true c15
         have c15b1 : decide (0 < l0.length) = true := decide_eq_true (by omega)
         clear c15
         simp only [Option.some.injEq, Prod.mk.injEq] at H
         obtain ⟨rfl, rfl⟩ := H
         go_wp2_with (first | (go_at_call 52; (with_reducible refine (mast_has.calls _ _ l0 a1 false _ (cbz HR0) HC0.out A10.out).mono ?_); rintro e w16 ⟨rfl, hb⟩; replace HB := Aside0.mk (below_step bel hb); clear hb) | (go_at_call 53; (with_reducible refine (mast_find.calls _ _ l0 a1 t116 _ (cbz HR0) HC0.out A13.out).mono ?_); rintro e w17 ⟨rfl, hb⟩; replace HB := Aside0.mk (below_step bel hb); clear hb; have p117 : 0 ≤ (0 : Int) := (by omega); have q117 : 0 < (l0.length : Int) := of_decide_eq_true asz; obtain ⟨ad117, e117, hx117_0, hx117_1⟩ := at_T46 HR0.out 0 p117 q117; cases e117; have qi117 : (0 < l0.length) = True := eq_true (by omega); (try rw [show ((0 : Int)).toNat = 0 from rfl] at hx117_0); (try rw [show 0 * 2 = 0 from rfl] at hx117_0); (try rw [Addr.add_zero'] at hx117_0); (try rw [show ((0 : Int)).toNat = 0 from rfl] at hx117_1); (try rw [show 0 * 2 = 0 from rfl] at hx117_1); (try rw [Addr.add_zero'] at hx117_1); replace hx117_0 := (HB.out.cell (World.block_lt_of_cell? w _ hx117_0)).trans hx117_0; replace hx117_1 := (HB.out.cell (World.block_lt_of_cell? w _ hx117_1)).trans hx117_1; replace p117 := eq_true p117; replace q117 := eq_true q117))
         repeat (go_quiet (first | (go_at_call 52; (with_reducible refine (mast_has.calls _ _ l0 a1 false _ (cbz HR0) HC0.out A10.out).mono ?_); rintro e w16 ⟨rfl, hb⟩; replace HB := Aside0.mk (below_step bel hb); clear hb) | (go_at_call 53; (with_reducible refine (mast_find.calls _ _ l0 a1 t116 _ (cbz HR0) HC0.out A13.out).mono ?_); rintro e w17 ⟨rfl, hb⟩; replace HB := Aside0.mk (below_step bel hb); clear hb; have p117 : 0 ≤ (0 : Int) := (by omega); have q117 : 0 < (l0.length : Int) := of_decide_eq_true asz; obtain ⟨ad117, e117, hx117_0, hx117_1⟩ := at_T46 HR0.out 0 p117 q117; cases e117; have qi117 : (0 < l0.length) = True := eq_true (by omega); (try rw [show ((0 : Int)).toNat = 0 from rfl] at hx117_0); (try rw [show 0 * 2 = 0 from rfl] at hx117_0); (try rw [Addr.add_zero'] at hx117_0); (try rw [show ((0 : Int)).toNat = 0 from rfl] at hx117_1); (try rw [show 0 * 2 = 0 from rfl] at hx117_1); (try rw [Addr.add_zero'] at hx117_1); replace hx117_0 := (HB.out.cell (World.block_lt_of_cell? w _ hx117_0)).trans hx117_0; replace hx117_1 := (HB.out.cell (World.block_lt_of_cell? w _ hx117_1)).trans hx117_1; replace p117 := eq_true p117; replace q117 := eq_true q117)); try go_wp2_with (first | (go_at_call 52; (with_reducible refine (mast_has.calls _ _ l0 a1 false _ (cbz HR0) HC0.out A10.out).mono ?_); rintro e w16 ⟨rfl, hb⟩; replace HB := Aside0.mk (below_step bel hb); clear hb) | (go_at_call 53; (with_reducible refine (mast_find.calls _ _ l0 a1 t116 _ (cbz HR0) HC0.out A13.out).mono ?_); rintro e w17 ⟨rfl, hb⟩; replace HB := Aside0.mk (below_step bel hb); clear hb; have p117 : 0 ≤ (0 : Int) := (by omega); have q117 : 0 < (l0.length : Int) := of_decide_eq_true asz; obtain ⟨ad117, e117, hx117_0, hx117_1⟩ := at_T46 HR0.out 0 p117 q117; cases e117; have qi117 : (0 < l0.length) = True := eq_true (by omega); (try rw [show ((0 : Int)).toNat = 0 from rfl] at hx117_0); (try rw [show 0 * 2 = 0 from rfl] at hx117_0); (try rw [Addr.add_zero'] at hx117_0); (try rw [show ((0 : Int)).toNat = 0 from rfl] at hx117_1); (try rw [show 0 * 2 = 0 from rfl] at hx117_1); (try rw [Addr.add_zero'] at hx117_1); replace hx117_0 := (HB.out.cell (World.block_lt_of_cell? w _ hx117_0)).trans hx117_0; replace hx117_1 := (HB.out.cell (World.block_lt_of_cell? w _ hx117_1)).trans hx117_1; replace p117 := eq_true p117; replace q117 := eq_true q117)))
         go_ret2
         exact ⟨ezz, bel⟩
        ·
         rw [if_neg c15] at H
         exact absurd H (by simp)
       ·
        rw [if_neg c14] at H
        have c14b0 : (t116 == 0) = false := beq_eq_false_iff_ne.mpr c14
        have c14b1 : (t116 != 0) = true := bne_iff_ne.mpr c14
        by_cases c18 : t116 = (l0.length : Int)
        ·
         rw [if_pos c18] at H
         have c18b0 : (t116 == (l0.length : Int)) = true := beq_iff_eq.mpr c18
         have c18b1 : (t116 != (l0.length : Int)) = false := bne_eq_false_iff_eq.mpr c18
         clear c18
         obtain ⟨ji19, hji19⟩ : ∃ j_ : Int, (wrap64 (t116 - 1)) = j_ := ⟨_, rfl⟩
         replace H : (if 0 ≤ (ji19) then (if (ji19) < (l0.length : Int) then (some (wrap64 (((rd_T46 l0 (ji19)).f1) - 1), 0)) else (none)) else (none)) = some (r1, r2) := by first | (rw [hji19] at H; exact H) | (simp only [hji19] at H ⊢; exact H)
         (try rw [hji19] at A10)
         (try rw [hji19] at A13)
         have hji19w : (IntKind.i64.wrap (t116 - 1)) = ji19 := (i64_w _).trans hji19
         by_cases c20 : 0 ≤ (ji19)
         ·
          rw [if_pos c20] at H
          have c20b0 : decide (0 ≤ (ji19)) = true := decide_eq_true c20
          clear c20
          by_cases c21 : (ji19) < (l0.length : Int)
          ·
           rw [if_pos c21] at H
           have c21b0 : decide ((ji19) < (l0.length : Int)) = true := decide_eq_true c21
           clear c21
           simp only [Option.some.injEq, Prod.mk.injEq] at H
           obtain ⟨rfl, rfl⟩ := H
           go_wp2_with (first | (go_at_call 52; (with_reducible refine (mast_has.calls _ _ l0 a1 false _ (cbz HR0) HC0.out A10.out).mono ?_); rintro e w22 ⟨rfl, hb⟩; replace HB := Aside0.mk (below_step bel hb); clear hb) | (go_at_call 53; (with_reducible refine (mast_find.calls _ _ l0 a1 t116 _ (cbz HR0) HC0.out A13.out).mono ?_); rintro e w23 ⟨rfl, hb⟩; replace HB := Aside0.mk (below_step bel hb); clear hb; have p118 : 0 ≤ ((ji19) : Int) := of_decide_eq_true asz; have q118 : (ji19) < (l0.length : Int) := of_decide_eq_true asz; obtain ⟨ad118, e118, hx118_0, hx118_1⟩ := at_T46 HR0.out (ji19) p118 q118; cases e118; replace hx118_0 := (HB.out.cell (World.block_lt_of_cell? w _ hx118_0)).trans hx118_0; replace hx118_1 := (HB.out.cell (World.block_lt_of_cell? w _ hx118_1)).trans hx118_1; replace p118 := eq_true p118; replace q118 := eq_true q118))
           repeat (go_quiet (first | (go_at_call 52; (with_reducible refine (mast_has.calls _ _ l0 a1 false _ (cbz HR0) HC0.out A10.out).mono ?_); rintro e w22 ⟨rfl, hb⟩; replace HB := Aside0.mk (below_step bel hb); clear hb) | (go_at_call 53; (with_reducible refine (mast_find.calls _ _ l0 a1 t116 _ (cbz HR0) HC0.out A13.out).mono ?_); rintro e w23 ⟨rfl, hb⟩; replace HB := Aside0.mk (below_step bel hb); clear hb; have p118 : 0 ≤ ((ji19) : Int) := of_decide_eq_true asz; have q118 : (ji19) < (l0.length : Int) := of_decide_eq_true asz; obtain ⟨ad118, e118, hx118_0, hx118_1⟩ := at_T46 HR0.out (ji19) p118 q118; cases e118; replace hx118_0 := (HB.out.cell (World.block_lt_of_cell? w _ hx118_0)).trans hx118_0; replace hx118_1 := (HB.out.cell (World.block_lt_of_cell? w _ hx118_1)).trans hx118_1; replace p118 := eq_true p118; replace q118 := eq_true q118)); try go_wp2_with (first | (go_at_call 52; (with_reducible refine (mast_has.calls _ _ l0 a1 false _ (cbz HR0) HC0.out A10.out).mono ?_); rintro e w22 ⟨rfl, hb⟩; replace HB := Aside0.mk (below_step bel hb); clear hb) | (go_at_call 53; (with_reducible refine (mast_find.calls _ _ l0 a1 t116 _ (cbz HR0) HC0.out A13.out).mono ?_); rintro e w23 ⟨rfl, hb⟩; replace HB := Aside0.mk (below_step bel hb); clear hb; have p118 : 0 ≤ ((ji19) : Int) := of_decide_eq_true asz; have q118 : (ji19) < (l0.length : Int) := of_decide_eq_true asz; obtain ⟨ad118, e118, hx118_0, hx118_1⟩ := at_T46 HR0.out (ji19) p118 q118; cases e118; replace hx118_0 := (HB.out.cell (World.block_lt_of_cell? w _ hx118_0)).trans hx118_0; replace hx118_1 := (HB.out.cell (World.block_lt_of_cell? w _ hx118_1)).trans hx118_1; replace p118 := eq_true p118; replace q118 := eq_true q118)))
           go_ret2
           exact ⟨by first | rfl | (simp [errW_none, errW_some] <;> rfl) | (simp only [← hji19]; first | rfl | (simp [errW_none, errW_some] <;> rfl)) | (simp [*, errW_none, errW_some] <;> rfl), bel⟩
          ·
           rw [if_neg c21] at H
           exact absurd H (by simp)
         ·
          rw [if_neg c20] at H
          exact absurd H (by simp)
        ·
         rw [if_neg c18] at H
         have c18b0 : (t116 == (l0.length : Int)) = false := beq_eq_false_iff_ne.mpr c18
         have c18b1 : (t116 != (l0.length : Int)) = true := bne_iff_ne.mpr c18
         obtain ⟨ji24, hji24⟩ : ∃ j_ : Int, (wrap64 (t116 - 1)) = j_ := ⟨_, rfl⟩
         replace H : (if 0 ≤ (ji24) then (if (ji24) < (l0.length : Int) then (if 0 ≤ t116 then (if t116 < (l0.length : Int) then (if (wrap64 (a1 - (wrap64 (((rd_T46 l0 (ji24)).f1) - 1)))) ≤ (wrap64 (((rd_T46 l0 t116).f0) - a1)) then (some (wrap64 (((rd_T46 l0 (ji24)).f1) - 1), 0)) else (some ((rd_T46 l0 t116).f0, 0))) else (none)) else (none)) else (none)) else (none)) = some (r1, r2) := by first | (rw [hji24] at H; exact H) | (simp only [hji24] at H ⊢; exact H)
         (try rw [hji24] at A10)
         (try rw [hji24] at A13)
         have hji24w : (IntKind.i64.wrap (t116 - 1)) = ji24 := (i64_w _).trans hji24
         by_cases c25 : 0 ≤ (ji24)
         ·
          rw [if_pos c25] at H
          have c25b0 : decide (0 ≤ (ji24)) = true := decide_eq_true c25
          clear c25
          by_cases c26 : (ji24) < (l0.length : Int)
          ·
           rw [if_pos c26] at H
           have c26b0 : decide ((ji24) < (l0.length : Int)) = true := decide_eq_true c26
           clear c26
           by_cases c27 : 0 ≤ t116
           ·
            rw [if_pos c27] at H
            have c27b0 : decide (0 ≤ t116) = true := decide_eq_true c27
            clear c27
            by_cases c28 : t116 < (l0.length : Int)
            ·
             rw [if_pos c28] at H
             have c28b0 : decide (t116 < (l0.length : Int)) = true := decide_eq_true c28
             clear c28
             by_cases c29 : (wrap64 (a1 - (wrap64 (((rd_T46 l0 (ji24)).f1) - 1)))) ≤ (wrap64 (((rd_T46 l0 t116).f0) - a1))
             ·
              rw [if_pos c29] at H
              have c29b0 : decide ((wrap64 (a1 - (wrap64 (((rd_T46 l0 (ji24)).f1) - 1)))) ≤ (wrap64 (((rd_T46 l0 t116).f0) - a1))) = true := decide_eq_true c29
              clear c29
              simp only [Option.some.injEq, Prod.mk.injEq] at H
              obtain ⟨rfl, rfl⟩ := H
              go_wp2_with (first | (go_at_call 52; (with_reducible refine (mast_has.calls _ _ l0 a1 false _ (cbz HR0) HC0.out A10.out).mono ?_); rintro e w30 ⟨rfl, hb⟩; replace HB := Aside0.mk (below_step bel hb); clear hb) | (go_at_call 53; (with_reducible refine (mast_find.calls _ _ l0 a1 t116 _ (cbz HR0) HC0.out A13.out).mono ?_); rintro e w31 ⟨rfl, hb⟩; replace HB := Aside0.mk (below_step bel hb); clear hb; have p119 : 0 ≤ ((ji24) : Int) := of_decide_eq_true asz; have q119 : (ji24) < (l0.length : Int) := of_decide_eq_true asz; obtain ⟨ad119, e119, hx119_0, hx119_1⟩ := at_T46 HR0.out (ji24) p119 q119; cases e119; replace hx119_0 := (HB.out.cell (World.block_lt_of_cell? w _ hx119_0)).trans hx119_0; replace hx119_1 := (HB.out.cell (World.block_lt_of_cell? w _ hx119_1)).trans hx119_1; replace p119 := eq_true p119; replace q119 := eq_true q119; have p120 : 0 ≤ (t116 : Int) := of_decide_eq_true asz; have q120 : t116 < (l0.length : Int) := of_decide_eq_true asz; obtain ⟨ad120, e120, hx120_0, hx120_1⟩ := at_T46 HR0.out t116 p120 q120; obtain rfl : ad119 = ad120 := (by injection e120); replace hx120_0 := (HB.out.cell (World.block_lt_of_cell? w _ hx120_0)).trans hx120_0; replace hx120_1 := (HB.out.cell (World.block_lt_of_cell? w _ hx120_1)).trans hx120_1; replace p120 := eq_true p120; replace q120 := eq_true q120; have p121 : 0 ≤ ((ji24) : Int) := of_decide_eq_true asz; have q121 : (ji24) < (l0.length : Int) := of_decide_eq_true asz; obtain ⟨ad121, e121, hx121_0, hx121_1⟩ := at_T46 HR0.out (ji24) p121 q121; obtain rfl : ad119 = ad121 := (by injection e121); replace hx121_0 := (HB.out.cell (World.block_lt_of_cell? w _ hx121_0)).trans hx121_0; replace hx121_1 := (HB.out.cell (World.block_lt_of_cell? w _ hx121_1)).trans hx121_1; replace p121 := eq_true p121; replace q121 := eq_true q121))
              repeat (go_quiet (first | (go_at_call 52; (with_reducible refine (mast_has.calls _ _ l0 a1 false _ (cbz HR0) HC0.out A10.out).mono ?_); rintro e w30 ⟨rfl, hb⟩; replace HB := Aside0.mk (below_step bel hb); clear hb) | (go_at_call 53; (with_reducible refine (mast_find.calls _ _ l0 a1 t116 _ (cbz HR0) HC0.out A13.out).mono ?_); rintro e w31 ⟨rfl, hb⟩; replace HB := Aside0.mk (below_step bel hb); clear hb; have p119 : 0 ≤ ((ji24) : Int) := of_decide_eq_true asz; have q119 : (ji24) < (l0.length : Int) := of_decide_eq_true asz; obtain ⟨ad119, e119, hx119_0, hx119_1⟩ := at_T46 HR0.out (ji24) p119 q119; cases e119; replace hx119_0 := (HB.out.cell (World.block_lt_of_cell? w _ hx119_0)).trans hx119_0; replace hx119_1 := (HB.out.cell (World.block_lt_of_cell? w _ hx119_1)).trans hx119_1; replace p119 := eq_true p119; replace q119 := eq_true q119; have p120 : 0 ≤ (t116 : Int) := of_decide_eq_true asz; have q120 : t116 < (l0.length : Int) := of_decide_eq_true asz; obtain ⟨ad120, e120, hx120_0, hx120_1⟩ := at_T46 HR0.out t116 p120 q120; obtain rfl : ad119 = ad120 := (by injection e120); replace hx120_0 := (HB.out.cell (World.block_lt_of_cell? w _ hx120_0)).trans hx120_0; replace hx120_1 := (HB.out.cell (World.block_lt_of_cell? w _ hx120_1)).trans hx120_1; replace p120 := eq_true p120; replace q120 := eq_true q120; have p121 : 0 ≤ ((ji24) : Int) := of_decide_eq_true asz; have q121 : (ji24) < (l0.length : Int) := of_decide_eq_true asz; obtain ⟨ad121, e121, hx121_0, hx121_1⟩ := at_T46 HR0.out (ji24) p121 q121; obtain rfl : ad119 = ad121 := (by injection e121); replace hx121_0 := (HB.out.cell (World.block_lt_of_cell? w _ hx121_0)).trans hx121_0; replace hx121_1 := (HB.out.cell (World.block_lt_of_cell? w _ hx121_1)).trans hx121_1; replace p121 := eq_true p121; replace q121 := eq_true q121)); try go_wp2_with (first | (go_at_call 52; (with_reducible refine (mast_has.calls _ _ l0 a1 false _ (cbz HR0) HC0.out A10.out).mono ?_); rintro e w30 ⟨rfl, hb⟩; replace HB := Aside0.mk (below_step bel hb); clear hb) | (go_at_call 53; (with_reducible refine (mast_find.calls _ _ l0 a1 t116 _ (cbz HR0) HC0.out A13.out).mono ?_); rintro e w31 ⟨rfl, hb⟩; replace HB := Aside0.mk (below_step bel hb); clear hb; have p119 : 0 ≤ ((ji24) : Int) := of_decide_eq_true asz; have q119 : (ji24) < (l0.length : Int) := of_decide_eq_true asz; obtain ⟨ad119, e119, hx119_0, hx119_1⟩ := at_T46 HR0.out (ji24) p119 q119; cases e119; replace hx119_0 := (HB.out.cell (World.block_lt_of_cell? w _ hx119_0)).trans hx119_0; replace hx119_1 := (HB.out.cell (World.block_lt_of_cell? w _ hx119_1)).trans hx119_1; replace p119 := eq_true p119; replace q119 := eq_true q119; have p120 : 0 ≤ (t116 : Int) := of_decide_eq_true asz; have q120 : t116 < (l0.length : Int) := of_decide_eq_true asz; obtain ⟨ad120, e120, hx120_0, hx120_1⟩ := at_T46 HR0.out t116 p120 q120; obtain rfl : ad119 = ad120 := (by injection e120); replace hx120_0 := (HB.out.cell (World.block_lt_of_cell? w _ hx120_0)).trans hx120_0; replace hx120_1 := (HB.out.cell (World.block_lt_of_cell? w _ hx120_1)).trans hx120_1; replace p120 := eq_true p120; replace q120 := eq_true q120; have p121 : 0 ≤ ((ji24) : Int) := of_decide_eq_true asz; have q121 : (ji24) < (l0.length : Int) := of_decide_eq_true asz; obtain ⟨ad121, e121, hx121_0, hx121_1⟩ := at_T46 HR0.out (ji24) p121 q121; obtain rfl : ad119 = ad121 := (by injection e121); replace hx121_0 := (HB.out.cell (World.block_lt_of_cell? w _ hx121_0)).trans hx121_0; replace hx121_1 := (HB.out.cell (World.block_lt_of_cell? w _ hx121_1)).trans hx121_1; replace p121 := eq_true p121; replace q121 := eq_true q121)))
              go_ret2
              exact ⟨by first | rfl | (simp [errW_none, errW_some] <;> rfl) | (simp only [← hji24]; first | rfl | (simp [errW_none, errW_some] <;> rfl)) | (simp [*, errW_none, errW_some] <;> rfl), bel⟩
             ·
              rw [if_neg c29] at H
              have c29b0 : decide ((wrap64 (a1 - (wrap64 (((rd_T46 l0 (ji24)).f1) - 1)))) ≤ (wrap64 (((rd_T46 l0 t116).f0) - a1))) = false := decide_eq_false c29
              clear c29
              simp only [Option.some.injEq, Prod.mk.injEq] at H
              obtain ⟨rfl, rfl⟩ := H
              go_wp2_with (first | (go_at_call 52; (with_reducible refine (mast_has.calls _ _ l0 a1 false _ (cbz HR0) HC0.out A10.out).mono ?_); rintro e w32 ⟨rfl, hb⟩; replace HB := Aside0.mk (below_step bel hb); clear hb) | (go_at_call 53; (with_reducible refine (mast_find.calls _ _ l0 a1 t116 _ (cbz HR0) HC0.out A13.out).mono ?_); rintro e w33 ⟨rfl, hb⟩; replace HB := Aside0.mk (below_step bel hb); clear hb; have p119 : 0 ≤ ((ji24) : Int) := of_decide_eq_true asz; have q119 : (ji24) < (l0.length : Int) := of_decide_eq_true asz; obtain ⟨ad119, e119, hx119_0, hx119_1⟩ := at_T46 HR0.out (ji24) p119 q119; cases e119; replace hx119_0 := (HB.out.cell (World.block_lt_of_cell? w _ hx119_0)).trans hx119_0; replace hx119_1 := (HB.out.cell (World.block_lt_of_cell? w _ hx119_1)).trans hx119_1; replace p119 := eq_true p119; replace q119 := eq_true q119; have p120 : 0 ≤ (t116 : Int) := of_decide_eq_true asz; have q120 : t116 < (l0.length : Int) := of_decide_eq_true asz; obtain ⟨ad120, e120, hx120_0, hx120_1⟩ := at_T46 HR0.out t116 p120 q120; obtain rfl : ad119 = ad120 := (by injection e120); replace hx120_0 := (HB.out.cell (World.block_lt_of_cell? w _ hx120_0)).trans hx120_0; replace hx120_1 := (HB.out.cell (World.block_lt_of_cell? w _ hx120_1)).trans hx120_1; replace p120 := eq_true p120; replace q120 := eq_true q120; have p122 : 0 ≤ (t116 : Int) := of_decide_eq_true asz; have q122 : t116 < (l0.length : Int) := of_decide_eq_true asz; obtain ⟨ad122, e122, hx122_0, hx122_1⟩ := at_T46 HR0.out t116 p122 q122; obtain rfl : ad119 = ad122 := (by injection e122); replace hx122_0 := (HB.out.cell (World.block_lt_of_cell? w _ hx122_0)).trans hx122_0; replace hx122_1 := (HB.out.cell (World.block_lt_of_cell? w _ hx122_1)).trans hx122_1; replace p122 := eq_true p122; replace q122 := eq_true q122))
              repeat (go_quiet (first | (go_at_call 52; (with_reducible refine (mast_has.calls _ _ l0 a1 false _ (cbz HR0) HC0.out A10.out).mono ?_); rintro e w32 ⟨rfl, hb⟩; replace HB := Aside0.mk (below_step bel hb); clear hb) | (go_at_call 53; (with_reducible refine (mast_find.calls _ _ l0 a1 t116 _ (cbz HR0) HC0.out A13.out).mono ?_); rintro e w33 ⟨rfl, hb⟩; replace HB := Aside0.mk (below_step bel hb); clear hb; have p119 : 0 ≤ ((ji24) : Int) := of_decide_eq_true asz; have q119 : (ji24) < (l0.length : Int) := of_decide_eq_true asz; obtain ⟨ad119, e119, hx119_0, hx119_1⟩ := at_T46 HR0.out (ji24) p119 q119; cases e119; replace hx119_0 := (HB.out.cell (World.block_lt_of_cell? w _ hx119_0)).trans hx119_0; replace hx119_1 := (HB.out.cell (World.block_lt_of_cell? w _ hx119_1)).trans hx119_1; replace p119 := eq_true p119; replace q119 := eq_true q119; have p120 : 0 ≤ (t116 : Int) := of_decide_eq_true asz; have q120 : t116 < (l0.length : Int) := of_decide_eq_true asz; obtain ⟨ad120, e120, hx120_0, hx120_1⟩ := at_T46 HR0.out t116 p120 q120; obtain rfl : ad119 = ad120 := (by injection e120); replace hx120_0 := (HB.out.cell (World.block_lt_of_cell? w _ hx120_0)).trans hx120_0; replace hx120_1 := (HB.out.cell (World.block_lt_of_cell? w _ hx120_1)).trans hx120_1; replace p120 := eq_true p120; replace q120 := eq_true q120; have p122 : 0 ≤ (t116 : Int) := of_decide_eq_true asz; have q122 : t116 < (l0.length : Int) := of_decide_eq_true asz; obtain ⟨ad122, e122, hx122_0, hx122_1⟩ := at_T46 HR0.out t116 p122 q122; obtain rfl : ad119 = ad122 := (by injection e122); replace hx122_0 := (HB.out.cell (World.block_lt_of_cell? w _ hx122_0)).trans hx122_0; replace hx122_1 := (HB.out.cell (World.block_lt_of_cell? w _ hx122_1)).trans hx122_1; replace p122 := eq_true p122; replace q122 := eq_true q122)); try go_wp2_with (first | (go_at_call 52; (with_reducible refine (mast_has.calls _ _ l0 a1 false _ (cbz HR0) HC0.out A10.out).mono ?_); rintro e w32 ⟨rfl, hb⟩; replace HB := Aside0.mk (below_step bel hb); clear hb) | (go_at_call 53; (with_reducible refine (mast_find.calls _ _ l0 a1 t116 _ (cbz HR0) HC0.out A13.out).mono ?_); rintro e w33 ⟨rfl, hb⟩; replace HB := Aside0.mk (below_step bel hb); clear hb; have p119 : 0 ≤ ((ji24) : Int) := of_decide_eq_true asz; have q119 : (ji24) < (l0.length : Int) := of_decide_eq_true asz; obtain ⟨ad119, e119, hx119_0, hx119_1⟩ := at_T46 HR0.out (ji24) p119 q119; cases e119; replace hx119_0 := (HB.out.cell (World.block_lt_of_cell? w _ hx119_0)).trans hx119_0; replace hx119_1 := (HB.out.cell (World.block_lt_of_cell? w _ hx119_1)).trans hx119_1; replace p119 := eq_true p119; replace q119 := eq_true q119; have p120 : 0 ≤ (t116 : Int) := of_decide_eq_true asz; have q120 : t116 < (l0.length : Int) := of_decide_eq_true asz; obtain ⟨ad120, e120, hx120_0, hx120_1⟩ := at_T46 HR0.out t116 p120 q120; obtain rfl : ad119 = ad120 := (by injection e120); replace hx120_0 := (HB.out.cell (World.block_lt_of_cell? w _ hx120_0)).trans hx120_0; replace hx120_1 := (HB.out.cell (World.block_lt_of_cell? w _ hx120_1)).trans hx120_1; replace p120 := eq_true p120; replace q120 := eq_true q120; have p122 : 0 ≤ (t116 : Int) := of_decide_eq_true asz; have q122 : t116 < (l0.length : Int) := of_decide_eq_true asz; obtain ⟨ad122, e122, hx122_0, hx122_1⟩ := at_T46 HR0.out t116 p122 q122; obtain rfl : ad119 = ad122 := (by injection e122); replace hx122_0 := (HB.out.cell (World.block_lt_of_cell? w _ hx122_0)).trans hx122_0; replace hx122_1 := (HB.out.cell (World.block_lt_of_cell? w _ hx122_1)).trans hx122_1; replace p122 := eq_true p122; replace q122 := eq_true q122)))
              go_ret2
              exact ⟨by first | rfl | (simp [errW_none, errW_some] <;> rfl) | (simp only [← hji24]; first | rfl | (simp [errW_none, errW_some] <;> rfl)) | (simp [*, errW_none, errW_some] <;> rfl), bel⟩
            ·
             rw [if_neg c28] at H
             exact absurd H (by simp)
           ·
            rw [if_neg c27] at H
            exact absurd H (by simp)
          ·
           rw [if_neg c26] at H
           exact absurd H (by simp)
         ·
          rw [if_neg c25] at H
          exact absurd H (by simp)
 ·
  replace c4 := Bool.eq_false_iff.mpr c4
  subst c4
  rw [if_neg (show ¬ (false = true) by decide)] at H
  simp only [Option.some.injEq, Prod.mk.injEq] at H
  obtain ⟨rfl, rfl⟩ := H
  go_enter Tryd.func23, Tryd.ntmps23
  go_wp2_with (first | (go_at_call 50; (with_reducible refine (mast_Valid.calls k _ _ l0 false _ ?side1 HC0.out A3.out).mono ?_); (case side1 => repeat (first | exact HR0.out | (with_reducible refine Kd.C_alloc ?_ _) | (with_reducible refine Kd.C_drewN ?_ _) | (with_reducible refine Kd.C_drew ?_))); rintro e w34 ⟨rfl, hb⟩; replace HB := Aside0.mk (below_step bel hb); clear hb))
  repeat (go_quiet (first | (go_at_call 50; (with_reducible refine (mast_Valid.calls k _ _ l0 false _ ?side1 HC0.out A3.out).mono ?_); (case side1 => repeat (first | exact HR0.out | (with_reducible refine Kd.C_alloc ?_ _) | (with_reducible refine Kd.C_drewN ?_ _) | (with_reducible refine Kd.C_drew ?_))); rintro e w34 ⟨rfl, hb⟩; replace HB := Aside0.mk (below_step bel hb); clear hb)); try go_wp2_with (first | (go_at_call 50; (with_reducible refine (mast_Valid.calls k _ _ l0 false _ ?side1 HC0.out A3.out).mono ?_); (case side1 => repeat (first | exact HR0.out | (with_reducible refine Kd.C_alloc ?_ _) | (with_reducible refine Kd.C_drewN ?_ _) | (with_reducible refine Kd.C_drew ?_))); rintro e w34 ⟨rfl, hb⟩; replace HB := Aside0.mk (below_step bel hb); clear hb)))
  go_ret2
  exact ⟨ezz, bel⟩

/-! ### mast_at: function 65 -/
def mast_at.txt (n : Int) : ByteArray := ⟨(Lib.itoa n).toArray⟩
def mast_at.f (a0 : Int) : Option ByteArray := if 0 ≤ a0 ∧ a0 ≤ 1000000 ∧ (mast_at.txt (a0 / 1000)).size ≤ 1000 ∧ 1 ≤ (mast_at.txt (1000 + a0 % 1000)).size ∧ (mast_at.txt (1000 + a0 % 1000)).size ≤ 1000 then some (mast_at.txt (a0 / 1000) ++ ⟨#[43]⟩ ++ (mast_at.txt (1000 + a0 % 1000)).extract 1 (mast_at.txt (1000 + a0 % 1000)).size) else none
theorem mast_at.below (w : World) (k : Nat) (os : Array Obj) : Below w.heap.size w (Sort.grow (w.drewN k) os) := by
 have h := pw_below_drewN (Below.refl w.heap.size w) k
 exact ⟨h.os, h.tape, h.output, by show w.heap.size ≤ (w.heap ++ os).size; rw [Array.size_append]; omega, fun j hj => by show (w.heap ++ os)[j]? = _; rw [Array.getElem?_append_left hj]⟩
theorem mast_at.itoa (n : Int) (h0 : -9223372036854775808 ≤ n) (h1 : n ≤ 9223372036854775807) (w : World) (hT : Tab.Tabs w) :
  Calls Tryd.prog 79 #[.int .i64 n] w fun e w' => e = .returned (.string (mast_at.txt n)) ∧ Below w.heap.size w w' := by
 refine (Tryd.strconv_Itoa n h0 h1 w hT).mono ?_
 rintro e w1 ⟨rfl, k, os, rfl⟩
 exact ⟨rfl, mast_at.below w k os⟩
set_option maxHeartbeats 2000000 in
set_option maxRecDepth 100000 in
theorem mast_at.calls (a0 : Int) (r : ByteArray) (w : World) (hT : Tab.Tabs w) (h : mast_at.f a0 = some r) :
  Calls Tryd.prog 65 #[.int .i64 a0] w fun e w' => e = .returned (.string r) ∧ Below w.heap.size w w' := by
 have HT := Aside0.mk hT
 clear hT
 unfold mast_at.f at h
 by_cases hc : ¬ (0 ≤ a0 ∧ a0 ≤ 1000000 ∧ (mast_at.txt (a0 / 1000)).size ≤ 1000 ∧ 1 ≤ (mast_at.txt (1000 + a0 % 1000)).size ∧ (mast_at.txt (1000 + a0 % 1000)).size ≤ 1000)
 ·
  rw [if_neg hc] at h; cases h
 replace hc := Decidable.not_not.1 hc
 rw [if_pos hc] at h
 have H := Aside0.mk (Option.some.inj h)
 have HC := Aside0.mk hc
 have e1 : wrap64 (a0.tdiv 1000) = a0 / 1000 := by rw [Int.tdiv_eq_ediv_of_nonneg hc.1]; unfold wrap64; omega
 have e2 : a0.tmod 1000 = a0 % 1000 := Int.tmod_eq_emod_of_nonneg hc.1
 have e3 : wrap64 (1000 + a0 % 1000) = 1000 + a0 % 1000 := by unfold wrap64; omega
 have l1 : (9223372036854775807 < (mast_at.txt (a0 / 1000)).size + 1) = False := eq_false (by omega)
 have l2 : (1 ≤ (mast_at.txt (1000 + a0 % 1000)).size) = True := eq_true hc.2.2.2.1
 have l3 : ((1 : Int) ≤ ((mast_at.txt (1000 + a0 % 1000)).size : Int)) = True := eq_true (by omega)
 have l4 : (9223372036854775807 < (mast_at.txt (a0 / 1000)).size + 1 + ((mast_at.txt (1000 + a0 % 1000)).size - 1)) = False := eq_false (by omega)
 clear h hc
 go_enter Tryd.func65, Tryd.ntmps65
 go_wp2_with (first | (go_at_call 79; first | ((with_reducible refine (mast_at.itoa (a0 / 1000) (by have := HC.out; omega) (by have := HC.out; omega) w HT.out).mono ?_); rintro e w1 ⟨rfl, hb⟩; have HB1 := Aside0.mk hb; clear hb) | ((with_reducible refine (mast_at.itoa (1000 + a0 % 1000) (by have := HC.out; omega) (by have := HC.out; omega) w1 (Tab.Tabs.below HT.out HB1.out)).mono ?_); rintro e w2 ⟨rfl, hb⟩; have HB2 := Aside0.mk hb; clear hb)))
 go_ret
 refine ⟨by rw [H.out]; rfl, below_step HB1.out HB2.out⟩

/-! ### mast_FormatAt: function 40 -/
def mast_FormatAt.f (a0 : Int) : Option (ByteArray × Int) := (mast_isAt.f a0).bind fun t123 => (if t123 = true then ((mast_at.f a0).bind fun t124 => (some (t124, 0))) else (some ((⟨#[]⟩ : ByteArray), 2)))
set_option maxHeartbeats 8000000 in
set_option maxRecDepth 100000 in
theorem mast_FormatAt.calls (a0 : Int) (r1 : ByteArray) (r2 : Int) (w : World) (hT : Tab.Tabs w) (h : mast_FormatAt.f a0 = some (r1, r2)) :
  Calls Tryd.prog 40 #[.int .i64 a0] w fun e w' => e = .returned (.tuple #[.string r1, .int .i64 r2]) ∧ Below w.heap.size w w' := by
 have HT := Aside0.mk hT
 clear hT
 have HB := Aside0.mk (Below.refl w.heap.size w)
 have H : ((mast_isAt.f a0).bind fun t123 => (if t123 = true then ((mast_at.f a0).bind fun t124 => (some (t124, 0))) else (some ((⟨#[]⟩ : ByteArray), 2)))) = some (r1, r2) := h
 clear h
 replace H := Option.bind_eq_some_iff.mp H
 obtain ⟨t123, A20, H⟩ := H
 try dsimp only at H
 have A2 := Aside0.mk A20
 clear A20
 by_cases c3 : t123 = true
 ·
  subst c3
  rw [if_pos rfl] at H
  replace H := Option.bind_eq_some_iff.mp H
  obtain ⟨t124, A40, H⟩ := H
  try dsimp only at H
  have A4 := Aside0.mk A40
  clear A40
  simp only [Option.some.injEq, Prod.mk.injEq] at H
  obtain ⟨rfl, rfl⟩ := H
  go_enter Tryd.func40, Tryd.ntmps40
  go_wp2_with (first | ((with_reducible refine gate_callee (f := 64) rfl ?_); refine goesL_ (some 5) rfl rfl Tryd.func64 (by kernel_rfl) rfl #[.int .i64 a0] rfl mapz ?_; (with_reducible refine (mast_isAt.calls a0 true _ A2.out).mono ?_); rintro e w' ⟨rfl, ⟨nd, rfl⟩⟩; refine ⟨_, rfl, ?_⟩) | ((with_reducible refine gate_callee (f := 65) rfl ?_); refine goesL_ (some 8) rfl rfl Tryd.func65 (by kernel_rfl) rfl #[.int .i64 a0] rfl mapz ?_; (with_reducible refine (mast_at.calls a0 t124 _ (tbz HT) A4.out).mono ?_); rintro e w5 ⟨rfl, hb⟩; refine ⟨_, rfl, ?_⟩; replace HB := Aside0.mk (below_step bel hb); clear hb))
  go_ret2
  exact ⟨ezz, bel⟩
 ·
  replace c3 := Bool.eq_false_iff.mpr c3
  subst c3
  rw [if_neg (show ¬ (false = true) by decide)] at H
  simp only [Option.some.injEq, Prod.mk.injEq] at H
  obtain ⟨rfl, rfl⟩ := H
  go_enter Tryd.func40, Tryd.ntmps40
  go_wp2_with (first | ((with_reducible refine gate_callee (f := 64) rfl ?_); refine goesL_ (some 5) rfl rfl Tryd.func64 (by kernel_rfl) rfl #[.int .i64 a0] rfl mapz ?_; (with_reducible refine (mast_isAt.calls a0 false _ A2.out).mono ?_); rintro e w' ⟨rfl, ⟨nd, rfl⟩⟩; refine ⟨_, rfl, ?_⟩))
  go_ret2
  exact ⟨ezz, bel⟩

/-! ### strings_Join: function 66 -/
def strings_Join.txt (l0 : List ByteArray) (a1 : ByteArray) : List UInt8 := Lib.join (l0.map (·.data.toList)) a1.data.toList
def strings_Join.f (l0 : List ByteArray) (a1 : ByteArray) : Option ByteArray := if l0.length ≤ 100000 ∧ (strings_Join.txt l0 a1).length ≤ 1000000 then some ⟨(strings_Join.txt l0 a1).toArray⟩ else none
theorem strings_Join.calls (A0 : Option Addr) (c0 : Nat) (l0 : List ByteArray) (a1 : ByteArray) (r : ByteArray) (w : World) (hr0 : Kd.C Kd.string w A0 l0.length l0) (hc0 : l0.length ≤ c0) (h : strings_Join.f l0 a1 = some r) :
  Calls Tryd.prog 66 #[.slice A0 l0.length c0, .string a1] w fun e w' => e = .returned (.string r) ∧ Below w.heap.size w w' := by
 unfold strings_Join.f at h
 by_cases hl : ¬ (l0.length ≤ 100000 ∧ (strings_Join.txt l0 a1).length ≤ 1000000)
 ·
  rw [if_neg hl] at h; cases h
 replace hl := Decidable.not_not.1 hl
 rw [if_pos hl] at h
 obtain rfl := Option.some.inj h
 cases l0 with
 | nil =>
  refine (Tryd.strings_Join_none A0 c0 a1 w).mono ?_
  rintro e w' ⟨rfl, rfl⟩
  exact ⟨rfl, Below.refl _ _⟩
 | cons x l =>
  have hcell : ∀ j, j < (x :: l).length → ∃ ad, A0 = some ad ∧ w.cell? (ad.add j) = some (.string ((x :: l).getD j ByteArray.empty)) := by
   intro j hj
   obtain ⟨ad, e1, hx⟩ := Kd.at_string hr0 (j : Int) (by omega) (by omega)
   refine ⟨ad, e1, ?_⟩
   rw [Int.toNat_natCast] at hx
   rw [hx]; simp [rdOf]
  obtain ⟨ad, rfl, h0⟩ := hcell 0 (by simp)
  have hsp : ad.spot = none := by
   have e : ad.add 0 = ad := by simp [Addr.add]
   rw [e] at h0
   unfold World.cell? at h0
   split at h0
   ·
    split at h0
    ·
     cases h0
    ·
     rename_i hs; simpa using hs
   ·
    cases h0
  obtain ⟨b, off, sp⟩ := ad
  simp only at hsp
  subst hsp
  refine (Tryd.strings_Join b off c0 (x :: l) a1 w (fun j y hj => ?_) ?_ (by omega) hc0 (by have := hl.2; unfold strings_Join.txt at this; omega)).mono ?_
  ·
   have hjl : j < (x :: l).length := (List.getElem?_eq_some_iff.1 hj).1
   obtain ⟨ad, e1, hx⟩ := hcell j hjl
   cases e1
   have e : (⟨b, off, none⟩ : Addr).add j = ⟨b, off + j, none⟩ := by unfold Addr.add; split <;> simp_all
   rw [e, List.getD_eq_getElem?_getD, hj] at hx
   exact hx
  ·
   have := World.block_lt_of_cell? _ _ h0
   unfold Addr.add at this
   split at this <;> simpa using this
  ·
   rintro e w' ⟨rfl, hb⟩
   exact ⟨rfl, hb⟩

/-! ### mast_Format: function 41 -/
def mast_Format.l0 : Nat → List ByteArray → List (S46) → Int → Int → Option (ByteArray × Int)
 | 0, _, _, _, _ => none
 | k + 1, x4, x10, x11, x12 => if x12 < x11 then (if 0 ≤ x12 then (if x12 < (x10.length : Int) then ((mast_at.f ((rd_T46 x10 x12).f0)).bind fun t128 => (if t128.size + 1 ≤ 9223372036854775807 then ((mast_at.f ((rd_T46 x10 x12).f1)).bind fun t129 => (if (t128 ++ (⟨#[45]⟩ : ByteArray)).size + t129.size ≤ 9223372036854775807 then (if x4.length < 8796093022208 then (mast_Format.l0 k (x4 ++ [(t128 ++ (⟨#[45]⟩ : ByteArray)) ++ t129]) x10 x11 (wrap64 (x12 + 1))) else (none)) else (none))) else (none))) else (none)) else (none)) else ((strings_Join.f x4 (⟨#[32]⟩ : ByteArray)).bind fun t133 => (some (t133, 0)))
def mast_Format.f (k : Nat) (l0 : List (S46)) : Option (ByteArray × Int) := (mast_Valid.f k l0).bind fun t125 => (if t125 = true then (mast_Format.l0 k ([] : List ByteArray) l0 (l0.length : Int) 0) else (some ((⟨#[]⟩ : ByteArray), 10)))
theorem mast_Format.mono_l : ∀ k, (∀ y0 y1 y2 y3, LeO (mast_Format.l0 k y0 y1 y2 y3) (mast_Format.l0 (k + 1) y0 y1 y2 y3))
 | 0 => fun _ _ _ _ r h => by simp [mast_Format.l0] at h
 | k + 1 => by
  have ih0 := mast_Format.mono_l k
  ·
   intro y0 y1 y2 y3
   unfold mast_Format.l0
   repeat' first
   | (with_reducible exact ih0 _ _ _ _)
   | (with_reducible exact mast_Valid.mono _ _)
   | (with_reducible exact LeO.refl _)
   | (with_reducible exact LeO.none _)
   | (with_reducible refine LeO.ite ?_ ?_)
   | (with_reducible refine LeO.bind ?_ (fun _ => ?_))
   | exact ih0 _ _ _ _
   | exact mast_Valid.mono _ _
   | exact LeO.none _
   | refine LeO.ite ?_ ?_
   | refine LeO.bind ?_ (fun _ => ?_)
theorem mast_Format.mono : ∀ a0 k, LeO (mast_Format.f k a0) (mast_Format.f (k + 1) a0) := by
 intro a0 k
 have ih0 := mast_Format.mono_l k
 unfold mast_Format.f
 repeat' first
   | (with_reducible exact ih0 _ _ _ _)
   | (with_reducible exact mast_Valid.mono _ _)
   | (with_reducible exact LeO.refl _)
   | (with_reducible exact LeO.none _)
   | (with_reducible refine LeO.ite ?_ ?_)
   | (with_reducible refine LeO.bind ?_ (fun _ => ?_))
   | exact ih0 _ _ _ _
   | exact mast_Valid.mono _ _
   | exact LeO.none _
   | refine LeO.ite ?_ ?_
   | refine LeO.bind ?_ (fun _ => ?_)
def mast_Format.T7 : Bool × List (List Nat × List Nat) := (true, [([], []), ([], []), ([1], [1]), ([2], [2]), ([3], [3]), ([], []), ([5], [5]), ([6, 3], [6]), ([4, 7], [4, 7]), ([8], [8]), ([0, 9, 7], [0, 9]), ([10, 10, 0, 1, 2, 3, 4, 5, 6, 7, 8, 9, 10], [0, 10])])
def mast_Format.B7 : List Nat := [0, 0, 2, 6, 14, 0, 32, 110, 254, 510, 1023, 2047]
theorem mast_Format.tab7 : rtab .any (opsOf Tryd.f41 7) = mast_Format.T7 := by kernel_rfl
theorem mast_Format.bits7 : waitsOk mast_Format.T7.2 mast_Format.B7 = true := by kernel_rfl
set_option maxHeartbeats 8000000 in
set_option maxRecDepth 100000 in
theorem mast_Format.calls (k : Nat) (A0 : Option Addr) (c0 : Nat) (l0 : List (S46)) (r1 : ByteArray) (r2 : Int) (w : World) (hr0 : Kd.C k46 w A0 l0.length l0) (hc0 : l0.length ≤ c0) (hT : Tab.Tabs w) (h : mast_Format.f k l0 = some (r1, r2)) :
  Calls Tryd.prog 41 #[.slice A0 l0.length c0] w fun e w' => e = .returned (.tuple #[.string r1, .int .i64 r2]) ∧ Below w.heap.size w w' := by
 have HT := Aside0.mk hT
 clear hT
 have hu46 := Tryd.underlying46
 have HR0 := Aside0.mk hr0
 have HC0 := Aside0.mk hc0
 clear hr0 hc0
 have HB := Aside0.mk (Below.refl w.heap.size w)
 have H : ((mast_Valid.f k l0).bind fun t125 => (if t125 = true then (mast_Format.l0 k ([] : List ByteArray) l0 (l0.length : Int) 0) else (some ((⟨#[]⟩ : ByteArray), 10)))) = some (r1, r2) := h
 clear h
 replace H := Option.bind_eq_some_iff.mp H
 obtain ⟨t125, A20, H⟩ := H
 try dsimp only at H
 have A2 := Aside0.mk A20
 clear A20
 by_cases c3 : t125 = true
 ·
  subst c3
  rw [if_pos rfl] at H
  have H' := Aside0.mk H
  clear H
  go_enter Tryd.func41, Tryd.ntmps41
  go_wp2_with (first | ((with_reducible refine gate_callee (f := 50) rfl ?_); refine goesL_ (some 8) rfl rfl Tryd.func50 (by kernel_rfl) rfl #[.slice A0 l0.length c0] rfl mapz ?_; (with_reducible refine (mast_Valid.calls k _ _ l0 true _ ?side1 HC0.out A2.out).mono ?_); (case side1 => repeat (first | exact HR0.out | (with_reducible refine Kd.C_alloc ?_ _) | (with_reducible refine Kd.C_drewN ?_ _) | (with_reducible refine Kd.C_drew ?_))); rintro e w4 ⟨rfl, hb⟩; refine ⟨_, rfl, ?_⟩; replace HB := Aside0.mk (below_step bel hb); clear hb))
  go_loopg [4, 12] k (fun kq v4 v12 w' => ∃ (x4_1 : List ByteArray) (x12_1 : Int), v12 = .int .i64 x12_1 ∧ Aside0 (mast_Format.l0 kq x4_1 l0 (l0.length : Int) x12_1 = some (r1, r2)) ∧ Aside0 (kq ≤ k) ∧ Aside0 (Kd.R Kd.string 9 w' w.heap.size (fun _ => True) v4 x4_1) ∧ Aside0 (Below w.heap.size w w'))
  case atStart => exact ⟨(([] : List ByteArray)), (0), rsz, H', ⟨Nat.le_refl _⟩, ⟨by first | exact Kd.R_nil _ _ _ _ _ | exact Kd.N_nil _ _ _ _ _ | exact Kd.V_nil _ _ _ _ _ | exact Kd.Q_nil _ _ _ _ _ | exact Kd.S_nil _ _ _ _ _⟩, ⟨bel⟩⟩
  case round =>
   clear H'
   (try clear p2); (try clear c3); (try clear c4)
   obtain ⟨x4_1, x12_1, rfl, HA, HK1, HO_4, HB⟩ := hrel
   cases gk with
   | zero => exact absurd HA.out (by simp [mast_Format.l0])
   | succ k1 =>
    have H := HA.out
    clear HA
    simp only [mast_Format.l0] at H
    by_cases c5 : x12_1 < (l0.length : Int)
    ·
     rw [if_pos c5] at H
     have c5b0 : decide (x12_1 < (l0.length : Int)) = true := decide_eq_true c5
     clear c5
     by_cases c6 : 0 ≤ x12_1
     ·
      rw [if_pos c6] at H
      have c6b0 : decide (0 ≤ x12_1) = true := decide_eq_true c6
      clear c6
      by_cases c7 : x12_1 < (l0.length : Int)
      ·
       rw [if_pos c7] at H
       have c7b0 : decide (x12_1 < (l0.length : Int)) = true := decide_eq_true c7
       clear c7
       replace H := Option.bind_eq_some_iff.mp H
       obtain ⟨t128, A80, H⟩ := H
       try dsimp only at H
       have A8 := Aside0.mk A80
       clear A80
       by_cases c9 : t128.size + 1 ≤ 9223372036854775807
       ·
        rw [if_pos c9] at H
        have c9b0 := eq_true c9
        have c9b1 : decide (t128.size + 1 ≤ 9223372036854775807) = true := decide_eq_true c9
        try have c9b2 : (9223372036854775807 < t128.size + 1) = False := eq_false (Nat.not_lt.2 c9)
        replace H := Option.bind_eq_some_iff.mp H
        obtain ⟨t129, A100, H⟩ := H
        try dsimp only at H
        have A10 := Aside0.mk A100
        clear A100
        by_cases c11 : (t128 ++ (⟨#[45]⟩ : ByteArray)).size + t129.size ≤ 9223372036854775807
        ·
         rw [if_pos c11] at H
         have c11b0 := eq_true c11
         have c11b1 : decide ((t128 ++ (⟨#[45]⟩ : ByteArray)).size + t129.size ≤ 9223372036854775807) = true := decide_eq_true c11
         try have c11b2 : (9223372036854775807 < (t128 ++ (⟨#[45]⟩ : ByteArray)).size + t129.size) = False := eq_false (Nat.not_lt.2 c11)
         have c11b4 := c11b2
         try simp only [ByteArray.size_append, show (⟨#[45]⟩ : ByteArray).size = 1 from rfl] at c11b4
         by_cases c12 : x4_1.length < 8796093022208
         ·
          rw [if_pos c12] at H
          have LMc12 := Aside0.mk c12
          clear c12
          obtain ⟨y130, hy130⟩ : ∃ y_ : List ByteArray, y_ = (x4_1 ++ [(t128 ++ (⟨#[45]⟩ : ByteArray)) ++ t129]) := ⟨_, rfl⟩
          replace H : (mast_Format.l0 k1 y130 l0 (l0.length : Int) (wrap64 (x12_1 + 1))) = some (r1, r2) := by first | (rw [hy130]; with_reducible exact H) | (have H2_ := (Option.bind_some _ _).symm.trans H; rw [hy130]; with_reducible exact H2_) | (have H2_ := (Option.bind_some _ _).symm.trans H; with_reducible exact H2_) | with_reducible exact H | (rw [hy130]; exact H) | exact H
          have Ny130 := Aside0.mk hy130
          clear hy130
          have H' := Aside0.mk H
          clear H
          have p126 : 0 ≤ (x12_1 : Int) := of_decide_eq_true asz
          have q126 : x12_1 < (l0.length : Int) := of_decide_eq_true asz
          obtain ⟨ad126, e126, hx126_0, hx126_1⟩ := at_T46 HR0.out x12_1 p126 q126
          cases e126
          replace hx126_0 := (HB.out.cell (World.block_lt_of_cell? w _ hx126_0)).trans hx126_0
          replace hx126_1 := (HB.out.cell (World.block_lt_of_cell? w _ hx126_1)).trans hx126_1
          replace p126 := eq_true p126
          replace q126 := eq_true q126
          try go_wp2_with (first | ((with_reducible refine gate_dst (N := 6) rfl ?_); refine box_event ?hg (N := 6) ?hd (cs := #[.int .i64 0, .int .i64 0]) (t := 46) ?hr ?_; (case hd => rfl); (case hg => rfl); (case hr => first | (go_simp; done) | (go_simp; rfl)); intro gb127 hg w13 hbox hb; have BK127 := Aside0.mk (hbox); have GW127 := bsz (w := w) hg; have GE127 := GW127; replace HO_4 := Aside0.mk (Kd.R_below (ownx HO_4) hb); replace HB := Aside0.mk (below_step bel hb); clear hb hbox hg; obtain ⟨hcz14_0, hcz14_1⟩ := bc2 BK127.out; obtain ⟨hfz14_0, hfz14_1⟩ := bf2 BK127.out))
          have n0_ : Aside0 (Kd.R Kd.string 9 ((w13.setCell ⟨gb127, 0, none⟩ (.int .i64 ((rd_T46 l0 x12_1).f0))).setCell ⟨gb127, 1, none⟩ (.int .i64 ((rd_T46 l0 x12_1).f1))) w.heap.size (fun _ => True) u4 x4_1) := ⟨by (with_reducible repeat (first | apply Kd.R_alloc | apply Kd.R_drewN | apply Kd.R_drew)); exact Kd.R_mono (Kd.R_far (p := ⟨gb127, 1, none⟩) (Kd.R_far (p := ⟨gb127, 0, none⟩) (Kd.R_types HO_4.out BK127.out (by decide)) (fun _ hk => hk.2) (.int .i64 ((rd_T46 l0 x12_1).f0))) (fun _ hk => hk.2) (.int .i64 ((rd_T46 l0 x12_1).f1))) (fun _ hk => trivial)⟩
          have n1_ : Aside0 (((w13.setCell ⟨gb127, 0, none⟩ (.int .i64 ((rd_T46 l0 x12_1).f0))).setCell ⟨gb127, 1, none⟩ (.int .i64 ((rd_T46 l0 x12_1).f1))).heap[gb127]? = some (.cells #[.int .i64 ((rd_T46 l0 x12_1).f0), .int .i64 ((rd_T46 l0 x12_1).f1)] 46 (0, 0))) := ⟨by (with_reducible repeat (first | refine blk_drewN ?_ _ | refine blk_drew ?_ | refine blk_alloc ?_ _)); refine blk_put (cs := #[.int .i64 ((rd_T46 l0 x12_1).f0), .int .i64 0]) ?_ 1 _ rfl; (with_reducible repeat (first | refine blk_drewN ?_ _ | refine blk_drew ?_ | refine blk_alloc ?_ _)); refine blk_put (cs := #[.int .i64 0, .int .i64 0]) ?_ 0 _ rfl; (with_reducible repeat (first | refine blk_drewN ?_ _ | refine blk_drew ?_ | refine blk_alloc ?_ _)); exact BK127.out⟩
          have n2_ : Aside0 (Below w.heap.size w ((w13.setCell ⟨gb127, 0, none⟩ (.int .i64 ((rd_T46 l0 x12_1).f0))).setCell ⟨gb127, 1, none⟩ (.int .i64 ((rd_T46 l0 x12_1).f1)))) := ⟨bel⟩
          (try clear HO_4)
          (try clear BK127)
          (try clear HB)
          generalize ((w13.setCell ⟨gb127, 0, none⟩ (.int .i64 ((rd_T46 l0 x12_1).f0))).setCell ⟨gb127, 1, none⟩ (.int .i64 ((rd_T46 l0 x12_1).f1))) = w15 at n0_ n1_ n2_ ⊢
          have HO_4 := n0_
          have BK127 := n1_
          have HB := n2_
          clear n0_ n1_ n2_
          have n0_ := Aside0.mk (Kd.R_drew HO_4.out)
          have n1_ := Aside0.mk (blk_drew BK127.out)
          have n2_ := Aside0.mk (below_drew1 HB.out)
          clear HO_4
          clear BK127
          clear HB
          have HO_4 := n0_
          have BK127 := n1_
          have HB := n2_
          clear n0_ n1_ n2_
          refine start_ (n := 12) (S := fun w' => w'.cell? ⟨gb127, 0, none⟩ = some (.int .i64 ((rd_T46 l0 x12_1).f0)) ∧ w'.cell? ⟨gb127, 1, none⟩ = some (.int .i64 ((rd_T46 l0 x12_1).f1))) (ds := []) #[false, false, false, false, false, false, false, false, false, false, false, false] (by kernel_rfl) rfl rfl ⟨(blk_cell BK127.out 0).trans rfl, (blk_cell BK127.out 1).trans rfl⟩ (fun hHeld => ?_); refine with_tabW mast_Format.tab7 mast_Format.bits7 (fun HT_ HW_ => ?_)
          generalize w15.drew = w16 at HO_4 BK127 HB hHeld ⊢
          refine pst (i := 0) (N := some 16) (bz 12 1) (any_of HT_.out (by kernel_rfl)) ?_
          refine pst (i := 1) (N := some 17) (bz 12 3) (any_of HT_.out (by kernel_rfl)) ?_
          refine pst (i := 5) (N := some 21) (bz 12 35) (any_of HT_.out (by kernel_rfl)) ?_
          refine tst2 (i := 2) (N := some 18) (bz 12 39) (take_ofW HT_.out HW_.out (by kernel_rfl)) hHeld ?_
          refine tst2 (i := 6) (N := some 22) (bz 12 103) (take_ofW HT_.out HW_.out (by kernel_rfl)) hHeld ?_
          refine one_ (i := 3) (N := some 19) #[true, true, true, true, false, true, true, false, false, false, false, false] rfl rfl (one_of HT_.out (by kernel_rfl)) (by decide) (fun K hK => ?_)
          refine goes_ Tryd.func65 (by kernel_rfl) rfl #[.int .i64 ((rd_T46 l0 x12_1).f0)] (by rfl) rfl rfl mapz ?_
          with_reducible refine (mast_at.calls ((rd_T46 l0 x12_1).f0) t128 _ ?sideT A8.out).mono ?_
          (case sideT => first | exact HT.out | exact Tab.Tabs.below HT.out bel | (with_reducible repeat (first | exact HT.out | apply Tab.Tabs.alloc | apply Tab.Tabs.drewN | apply Tab.Tabs.drew)))
          rintro e w17 ⟨rfl, hb⟩
          refine ⟨_, rfl, ?_⟩
          have n0_ := Aside0.mk (Kd.R_below (ownx HO_4) hb)
          have n1_ := Aside0.mk (blk_below (g := gb127) blkz hb)
          have n2_ := Aside0.mk (below_step bel hb)
          clear HO_4
          clear BK127
          clear HB
          have HO_4 := n0_
          have BK127 := n1_
          have HB := n2_
          clear n0_ n1_ n2_
          (try clear hb)
          (try clear hb2)
          (try clear hk)
          (try clear hi)
          refine hK.out _ _ ⟨(blk_cell BK127.out 0).trans rfl, (blk_cell BK127.out 1).trans rfl⟩ (fun hHeld => ?_)
          clear hK K
          refine norm_ (a' := ?_) ?_ ?_
          rotate_left
          ·
           show Act.put _ (some 19) _ = _
           simp only [Act.put, List.setIfInBounds_toArray, List.set_cons_zero, List.set_cons_succ, i64_w, i32_w]
           rfl
          refine pst (i := 4) (N := some 20) (bz 12 127) (any_of HT_.out (by kernel_rfl)) ?_
          refine one_ (i := 7) (N := some 23) #[true, true, true, true, true, true, true, true, false, false, false, false] rfl rfl (one_of HT_.out (by kernel_rfl)) (by decide) (fun K hK => ?_)
          refine goes_ Tryd.func65 (by kernel_rfl) rfl #[.int .i64 ((rd_T46 l0 x12_1).f1)] (by rfl) rfl rfl mapz ?_
          with_reducible refine (mast_at.calls ((rd_T46 l0 x12_1).f1) t129 _ ?sideT A10.out).mono ?_
          (case sideT => first | exact HT.out | exact Tab.Tabs.below HT.out bel | (with_reducible repeat (first | exact HT.out | apply Tab.Tabs.alloc | apply Tab.Tabs.drewN | apply Tab.Tabs.drew)))
          rintro e w18 ⟨rfl, hb⟩
          refine ⟨_, rfl, ?_⟩
          have n0_ := Aside0.mk (Kd.R_below (ownx HO_4) hb)
          have n1_ := Aside0.mk (blk_below (g := gb127) blkz hb)
          have n2_ := Aside0.mk (below_step bel hb)
          clear HO_4
          clear BK127
          clear HB
          have HO_4 := n0_
          have BK127 := n1_
          have HB := n2_
          clear n0_ n1_ n2_
          (try clear hb)
          (try clear hb2)
          (try clear hk)
          (try clear hi)
          refine hK.out _ _ ⟨(blk_cell BK127.out 0).trans rfl, (blk_cell BK127.out 1).trans rfl⟩ (fun hHeld => ?_)
          clear hK K
          refine norm_ (a' := ?_) ?_ ?_
          rotate_left
          ·
           show Act.put _ (some 23) _ = _
           simp only [Act.put, List.setIfInBounds_toArray, List.set_cons_zero, List.set_cons_succ, i64_w, i32_w]
           rfl
          refine pst (i := 8) (N := some 24) (bz 12 511) (any_of HT_.out (by kernel_rfl)) ?_
          refine one_ (i := 9) (N := some 25) #[true, true, true, true, true, true, true, true, true, true, false, false] rfl rfl (one_of HT_.out (by kernel_rfl)) (by decide) (fun K hK => ?_)
          refine value_ (w1 := ?_) (v := ?_) (by rfl) rfl ?_ ?_
          rotate_left 2
          ·
           go_simp
           constructor
           ·
            rfl
           ·
            rfl
          refine hK.out _ _ ⟨(blk_cell (blk_alloc BK127.out _) 0).trans rfl, (blk_cell (blk_alloc BK127.out _) 1).trans rfl⟩ (fun hHeld => ?_)
          clear hK K
          refine norm_ (a' := ?_) ?_ ?_
          rotate_left
          ·
           show Act.put _ (some 25) _ = _
           simp only [Act.put, List.setIfInBounds_toArray, List.set_cons_zero, List.set_cons_succ, i64_w, i32_w]
           rfl
          refine one_ (i := 10) (N := some 26) #[true, true, true, true, true, true, true, true, true, true, true, false] rfl rfl (one_of HT_.out (by kernel_rfl)) (by decide) (fun K hK => ?_)
          refine Kd.R_append_step Kd.string (w0 := w) w.heap.size (by rfl) (.tmp 16) (.tmp 25) 63 9 (.string ⟨#[]⟩) 16 rfl Tryd.underlying63 info9 rfl (by decide) (by omega) u4 x4_1 ((t128 ++ (⟨#[45]⟩ : ByteArray)) ++ t129) [.string ((t128 ++ (⟨#[45]⟩ : ByteArray)) ++ t129)] (fun _ => True) (fun _ => False) rfl rfl ?aP (fun _ hk => hk.elim) ?aF ?aO ?aB ?aS ?aL ?_
          (case aP => exact rfl)
          (case aB => exact bel)
          (case aF => exact (fun _ _ => trivial))
          (case aO => exact (ownx HO_4))
          (case aS => exact (below_size bel))
          (case aL => have := LMc12.out; omega)
          intro v131 w19 ho hb hg hat
          rw [← Ny130.out] at ho
          have n0_ := Aside0.mk (blk_grown (g := gb127) (o := .cells #[.int .i64 ((rd_T46 l0 x12_1).f0), .int .i64 ((rd_T46 l0 x12_1).f1)] 46 (0, 0)) blkz hg (Kd.R_ne HO_4.out BK127.out (by decide)))
          have n1_ := Aside0.mk (hb)
          have n2_ := Aside0.mk (ho)
          clear BK127
          clear HB
          clear HO_4
          have BK127 := n0_
          have HB := n1_
          have HO132 := n2_
          clear n0_ n1_ n2_
          clear ho hb hg hat
          refine hK.out _ _ ⟨(blk_cell BK127.out 0).trans rfl, (blk_cell BK127.out 1).trans rfl⟩ (fun hHeld => ?_)
          clear hK K
          refine norm_ (a' := ?_) ?_ ?_
          rotate_left
          ·
           show Act.put _ (some 26) _ = _
           simp only [Act.put, List.setIfInBounds_toArray, List.set_cons_zero, List.set_cons_succ, i64_w, i32_w]
           rfl
          refine pst (i := 11) (N := some 4) (bz 12 4095) (any_of HT_.out (by kernel_rfl)) ?_
          refine done_ (done_of HT_.out (by kernel_rfl)) ?_
          try go_wp2
          go_roundg k1
          case measure => have := HK1.out; omega
          case rel => exact ⟨(y130), (wrap64 (x12_1 + 1)), rsz, H', ⟨by have := HK1.out; omega⟩, ⟨by (with_reducible repeat (first | apply Kd.R_alloc | apply Kd.R_drewN | apply Kd.R_drew)); exact HO132.out⟩, ⟨bel⟩⟩
         ·
          rw [if_neg c12] at H
          exact absurd H (by simp)
        ·
         rw [if_neg c11] at H
         exact absurd H (by simp)
       ·
        rw [if_neg c9] at H
        exact absurd H (by simp)
      ·
       rw [if_neg c7] at H
       exact absurd H (by simp)
     ·
      rw [if_neg c6] at H
      exact absurd H (by simp)
    ·
     rw [if_neg c5] at H
     have c5b0 : decide (x12_1 < (l0.length : Int)) = false := decide_eq_false c5
     clear c5
     replace H := Option.bind_eq_some_iff.mp H
     obtain ⟨t133, A200, H⟩ := H
     try dsimp only at H
     have A20 := Aside0.mk A200
     clear A200
     simp only [Option.some.injEq, Prod.mk.injEq] at H
     obtain ⟨rfl, rfl⟩ := H
     obtain ⟨Ao21, co21, eo21⟩ := Kd.R_slice HO_4.out
     subst eo21
     go_wp2_with (first | ((with_reducible refine gate_callee (f := 66) rfl ?_); refine goesL_ (some 29) rfl rfl Tryd.func66 (by kernel_rfl) rfl #[.slice Ao21 x4_1.length co21, .string (⟨#[32]⟩ : ByteArray)] rfl mapz ?_; (with_reducible refine (strings_Join.calls _ _ x4_1 (⟨#[32]⟩ : ByteArray) t133 _ ?side1 ?side2 A20.out).mono ?_); (case side1 => repeat (first | exact (Kd.R_reads' HO_4.out).2.2 | (with_reducible refine Kd.C_alloc ?_ _) | (with_reducible refine Kd.C_drewN ?_ _) | (with_reducible refine Kd.C_drew ?_))); (case side2 => exact (Kd.R_reads' HO_4.out).2.1); rintro e w22 ⟨rfl, hb⟩; refine ⟨_, rfl, ?_⟩; replace HO_4 := Aside0.mk (Kd.R_below (ownx HO_4) hb); replace HB := Aside0.mk (below_step bel hb); clear hb))
     go_ret2
     exact ⟨ezz, bel⟩
 ·
  replace c3 := Bool.eq_false_iff.mpr c3
  subst c3
  rw [if_neg (show ¬ (false = true) by decide)] at H
  simp only [Option.some.injEq, Prod.mk.injEq] at H
  obtain ⟨rfl, rfl⟩ := H
  go_enter Tryd.func41, Tryd.ntmps41
  go_wp2_with (first | ((with_reducible refine gate_callee (f := 50) rfl ?_); refine goesL_ (some 8) rfl rfl Tryd.func50 (by kernel_rfl) rfl #[.slice A0 l0.length c0] rfl mapz ?_; (with_reducible refine (mast_Valid.calls k _ _ l0 false _ ?side1 HC0.out A2.out).mono ?_); (case side1 => repeat (first | exact HR0.out | (with_reducible refine Kd.C_alloc ?_ _) | (with_reducible refine Kd.C_drewN ?_ _) | (with_reducible refine Kd.C_drew ?_))); rintro e w23 ⟨rfl, hb⟩; refine ⟨_, rfl, ?_⟩; replace HB := Aside0.mk (below_step bel hb); clear hb))
  go_ret2
  exact ⟨ezz, bel⟩

/-! ### dropperlaw01_First: function 11 -/
def dropperlaw01_First.f (k : Nat)  : Option (Bool) := (mast_FormatAt.f 12345).bind fun bt134 => ((mast_Clean.f (([(⟨5, 9⟩ : S46), (⟨0, 5⟩ : S46), (⟨20, 30⟩ : S46)] : List (S46)))).bind fun bt139 => ((mast_Format.f k bt139.1).bind fun bt143 => ((mast_Near.f k bt139.1 15).bind fun bt145 => (if bt134.2 = 0 then (if bt139.2 = 0 then (if bt143.2 = 0 then (if bt145.2 = 0 then (if bt134.1.toList = ([49, 50, 43, 51, 52, 53] : List UInt8) then (if bt143.1.toList = ([48, 43, 48, 48, 48, 45, 48, 43, 48, 48, 57, 32, 48, 43, 48, 50, 48, 45, 48, 43, 48, 51, 48] : List UInt8) then (some (bt145.1 == 20)) else (some false)) else (some false)) else (some false)) else (some false)) else (some false)) else (some false)))))
set_option maxHeartbeats 8000000 in
set_option maxRecDepth 100000 in
theorem dropperlaw01_First.calls (k : Nat)  (r : Bool) (w : World) (hT : Tab.Tabs w) (h : dropperlaw01_First.f k  = some r) :
  Calls Tryd.prog 11 #[] w fun e w' => e = .returned (.bool r) ∧ Below w.heap.size w w' := by
 have HT := Aside0.mk hT
 clear hT
 have hu46 := Tryd.underlying46
 have HB := Aside0.mk (Below.refl w.heap.size w)
 have H : ((mast_FormatAt.f 12345).bind fun bt134 => ((mast_Clean.f (([(⟨5, 9⟩ : S46), (⟨0, 5⟩ : S46), (⟨20, 30⟩ : S46)] : List (S46)))).bind fun bt139 => ((mast_Format.f k bt139.1).bind fun bt143 => ((mast_Near.f k bt139.1 15).bind fun bt145 => (if bt134.2 = 0 then (if bt139.2 = 0 then (if bt143.2 = 0 then (if bt145.2 = 0 then (if bt134.1.toList = ([49, 50, 43, 51, 52, 53] : List UInt8) then (if bt143.1.toList = ([48, 43, 48, 48, 48, 45, 48, 43, 48, 48, 57, 32, 48, 43, 48, 50, 48, 45, 48, 43, 48, 51, 48] : List UInt8) then (some (bt145.1 == 20)) else (some false)) else (some false)) else (some false)) else (some false)) else (some false)) else (some false)))))) = some r := h
 clear h
 replace H := Option.bind_eq_some_iff.mp H
 obtain ⟨⟨t134, t135⟩, A10, H⟩ := H
 try dsimp only at H
 have A1 := Aside0.mk A10
 clear A10
 obtain ⟨y136, hy136⟩ : ∃ y_ : List (S46), y_ = (([(⟨5, 9⟩ : S46), (⟨0, 5⟩ : S46), (⟨20, 30⟩ : S46)] : List (S46))) := ⟨_, rfl⟩
 replace H : ((mast_Clean.f y136).bind fun bt139 => ((mast_Format.f k bt139.1).bind fun bt143 => ((mast_Near.f k bt139.1 15).bind fun bt145 => (if t135 = 0 then (if bt139.2 = 0 then (if bt143.2 = 0 then (if bt145.2 = 0 then (if t134.toList = ([49, 50, 43, 51, 52, 53] : List UInt8) then (if bt143.1.toList = ([48, 43, 48, 48, 48, 45, 48, 43, 48, 48, 57, 32, 48, 43, 48, 50, 48, 45, 48, 43, 48, 51, 48] : List UInt8) then (some (bt145.1 == 20)) else (some false)) else (some false)) else (some false)) else (some false)) else (some false)) else (some false))))) = some r := by first | (rw [hy136]; with_reducible exact H) | (have H2_ := (Option.bind_some _ _).symm.trans H; rw [hy136]; with_reducible exact H2_) | (have H2_ := (Option.bind_some _ _).symm.trans H; with_reducible exact H2_) | with_reducible exact H | (rw [hy136]; exact H) | exact H
 have Ny136 := Aside0.mk hy136
 clear hy136
 replace H := Option.bind_eq_some_iff.mp H
 obtain ⟨⟨t139, t140⟩, A20, H⟩ := H
 try dsimp only at H
 have A2 := Aside0.mk A20
 clear A20
 replace H := Option.bind_eq_some_iff.mp H
 obtain ⟨⟨t143, t144⟩, A30, H⟩ := H
 try dsimp only at H
 have A3 := Aside0.mk A30
 clear A30
 replace H := Option.bind_eq_some_iff.mp H
 obtain ⟨⟨t145, t146⟩, A40, H⟩ := H
 try dsimp only at H
 have A4 := Aside0.mk A40
 clear A40
 by_cases c5 : t135 = 0
 ·
  rw [if_pos c5] at H
  have c5b0 : (t135 == 0) = true := beq_iff_eq.mpr c5
  have c5b1 : (t135 != 0) = false := bne_eq_false_iff_eq.mpr c5
  clear c5
  by_cases c6 : t140 = 0
  ·
   rw [if_pos c6] at H
   have c6b0 : (t140 == 0) = true := beq_iff_eq.mpr c6
   have c6b1 : (t140 != 0) = false := bne_eq_false_iff_eq.mpr c6
   clear c6
   by_cases c7 : t144 = 0
   ·
    rw [if_pos c7] at H
    have c7b0 : (t144 == 0) = true := beq_iff_eq.mpr c7
    have c7b1 : (t144 != 0) = false := bne_eq_false_iff_eq.mpr c7
    clear c7
    by_cases c8 : t146 = 0
    ·
     rw [if_pos c8] at H
     have c8b0 : (t146 == 0) = true := beq_iff_eq.mpr c8
     have c8b1 : (t146 != 0) = false := bne_eq_false_iff_eq.mpr c8
     clear c8
     by_cases c9 : t134.toList = ([49, 50, 43, 51, 52, 53] : List UInt8)
     ·
      rw [if_pos c9] at H
      have c9b0 : (t134.toList == ([49, 50, 43, 51, 52, 53] : List UInt8)) = true := beq_iff_eq.mpr c9
      have c9b1 : (t134.toList != ([49, 50, 43, 51, 52, 53] : List UInt8)) = false := bne_eq_false_iff_eq.mpr c9
      clear c9
      by_cases c10 : t143.toList = ([48, 43, 48, 48, 48, 45, 48, 43, 48, 48, 57, 32, 48, 43, 48, 50, 48, 45, 48, 43, 48, 51, 48] : List UInt8)
      ·
       rw [if_pos c10] at H
       have c10b0 : (t143.toList == ([48, 43, 48, 48, 48, 45, 48, 43, 48, 48, 57, 32, 48, 43, 48, 50, 48, 45, 48, 43, 48, 51, 48] : List UInt8)) = true := beq_iff_eq.mpr c10
       have c10b1 : (t143.toList != ([48, 43, 48, 48, 48, 45, 48, 43, 48, 48, 57, 32, 48, 43, 48, 50, 48, 45, 48, 43, 48, 51, 48] : List UInt8)) = false := bne_eq_false_iff_eq.mpr c10
       clear c10
       obtain rfl := Option.some.inj H
       go_enter Tryd.func11, Tryd.ntmps11
       go_wp2_with (first | ((with_reducible refine gate_callee (f := 40) rfl ?_); refine goesL_ (some 10) rfl rfl Tryd.func40 (by kernel_rfl) rfl #[.int .i64 12345] rfl mapz ?_; (with_reducible refine (mast_FormatAt.calls 12345 t134 t135 _ (tbz HT) A1.out).mono ?_); rintro e w11 ⟨rfl, hb⟩; refine ⟨_, rfl, ?_⟩; replace HB := Aside0.mk (below_step bel hb); clear hb) | ((with_reducible refine gate_dst (N := 17) rfl ?_); refine Kd.R_lit k46 _ 46 ?hg (N := 17) ?hd (xs := ([(⟨5, 9⟩ : S46), (⟨0, 5⟩ : S46), (⟨20, 30⟩ : S46)] : List (S46))) (inner := [.int .i64 5, .int .i64 9, .int .i64 0, .int .i64 5, .int .i64 20, .int .i64 30]) (ok := fun _ => True) (okp := fun _ => True) ?hr ?hp (fun _ hk => hk) trivial (Below.refl _ _) (Nat.le_refl _) (by simp) ?_; (case hd => rfl); (case hg => rfl); (case hr => first | (go_simp; done) | (go_simp; rfl)); (case hp => exact (Reps.c2 (show Kd.M k46 _ _ _ (⟨5, 9⟩ : S46) [.int .i64 5, .int .i64 9] from (k46_mkM _ _ _ (⟨5, 9⟩ : S46) )) (Reps.c2 (show Kd.M k46 _ _ _ (⟨0, 5⟩ : S46) [.int .i64 0, .int .i64 5] from (k46_mkM _ _ _ (⟨0, 5⟩ : S46) )) (Reps.c2 (show Kd.M k46 _ _ _ (⟨20, 30⟩ : S46) [.int .i64 20, .int .i64 30] from (k46_mkM _ _ _ (⟨20, 30⟩ : S46) )) (Reps.none _ _))))); intro v137 w12 ho13 hb hg_ hnew_; clear hg_ hnew_; (first | rw [← Ny136.out] at ho13 | (simp only [Int.reduceToNat] at ho13; rw [← Ny136.out] at ho13)); have HO138 := Aside0.mk (Kd.R_lower ho13 (below_size bel)); replace HB := Aside0.mk (below_step bel hb); clear hb ho13; obtain ⟨Ao14, co14, eo14⟩ := Kd.R_slice HO138.out; subst eo14) | ((with_reducible refine gate_callee (f := 12) rfl ?_); refine goesL_ (some 18) rfl rfl Tryd.func12 (by kernel_rfl) rfl #[.slice Ao14 y136.length co14] rfl mapz ?_; (with_reducible refine (mast_Clean.calls _ _ y136 t139 t140 _ ?side1 ?side2 A2.out).mono ?_); (case side1 => repeat (first | exact (Kd.R_reads' HO138.out).2.2 | (with_reducible refine Kd.C_alloc ?_ _) | (with_reducible refine Kd.C_drewN ?_ _) | (with_reducible refine Kd.C_drew ?_))); (case side2 => exact (Kd.R_reads' HO138.out).2.1); rintro e w15 ⟨v141, rfl, ho0, hb⟩; refine ⟨_, rfl, ?_⟩; have HO142 := Aside0.mk (Kd.R_lower (Kd.R_new' ho0 (Kd.R_lt (ownx HO138))) (below_size bel)); replace HO138 := Aside0.mk (Kd.R_elder' (ownx HO138) (Kd.R_base ho0) hb); replace HB := Aside0.mk (below_step bel hb); (try clear hb); (try clear hb2); (try clear hk); (try clear hi); (try clear ho0); obtain ⟨Ao16, co16, eo16⟩ := Kd.R_slice HO142.out; subst eo16) | ((with_reducible refine gate_callee (f := 41) rfl ?_); refine goesL_ (some 23) rfl rfl Tryd.func41 (by kernel_rfl) rfl #[.slice Ao16 t139.length co16] rfl mapz ?_; (with_reducible refine (mast_Format.calls k _ _ t139 t143 t144 _ ?side1 ?side2 (tbz HT) A3.out).mono ?_); (case side1 => repeat (first | exact (Kd.R_reads' HO142.out).2.2 | (with_reducible refine Kd.C_alloc ?_ _) | (with_reducible refine Kd.C_drewN ?_ _) | (with_reducible refine Kd.C_drew ?_))); (case side2 => exact (Kd.R_reads' HO142.out).2.1); rintro e w17 ⟨rfl, hb⟩; refine ⟨_, rfl, ?_⟩; replace HO138 := Aside0.mk (Kd.R_below (ownx HO138) hb); replace HO142 := Aside0.mk (Kd.R_below (ownx HO142) hb); replace HB := Aside0.mk (below_step bel hb); clear hb) | ((with_reducible refine gate_callee (f := 23) rfl ?_); refine goesL_ (some 28) rfl rfl Tryd.func23 (by kernel_rfl) rfl #[.slice Ao16 t139.length co16, .int .i64 15] rfl mapz ?_; (with_reducible refine (mast_Near.calls k _ _ t139 15 t145 t146 _ ?side1 ?side2 A4.out).mono ?_); (case side1 => repeat (first | exact (Kd.R_reads' HO142.out).2.2 | (with_reducible refine Kd.C_alloc ?_ _) | (with_reducible refine Kd.C_drewN ?_ _) | (with_reducible refine Kd.C_drew ?_))); (case side2 => exact (Kd.R_reads' HO142.out).2.1); rintro e w18 ⟨rfl, hb⟩; refine ⟨_, rfl, ?_⟩; replace HO138 := Aside0.mk (Kd.R_below (ownx HO138) hb); replace HO142 := Aside0.mk (Kd.R_below (ownx HO142) hb); replace HB := Aside0.mk (below_step bel hb); clear hb))
       go_ret
       exact ⟨ezz, bel⟩
      ·
       rw [if_neg c10] at H
       have c10b0 : (t143.toList == ([48, 43, 48, 48, 48, 45, 48, 43, 48, 48, 57, 32, 48, 43, 48, 50, 48, 45, 48, 43, 48, 51, 48] : List UInt8)) = false := beq_eq_false_iff_ne.mpr c10
       have c10b1 : (t143.toList != ([48, 43, 48, 48, 48, 45, 48, 43, 48, 48, 57, 32, 48, 43, 48, 50, 48, 45, 48, 43, 48, 51, 48] : List UInt8)) = true := bne_iff_ne.mpr c10
       obtain rfl := Option.some.inj H
       go_enter Tryd.func11, Tryd.ntmps11
       go_wp2_with (first | ((with_reducible refine gate_callee (f := 40) rfl ?_); refine goesL_ (some 10) rfl rfl Tryd.func40 (by kernel_rfl) rfl #[.int .i64 12345] rfl mapz ?_; (with_reducible refine (mast_FormatAt.calls 12345 t134 t135 _ (tbz HT) A1.out).mono ?_); rintro e w19 ⟨rfl, hb⟩; refine ⟨_, rfl, ?_⟩; replace HB := Aside0.mk (below_step bel hb); clear hb) | ((with_reducible refine gate_dst (N := 17) rfl ?_); refine Kd.R_lit k46 _ 46 ?hg (N := 17) ?hd (xs := ([(⟨5, 9⟩ : S46), (⟨0, 5⟩ : S46), (⟨20, 30⟩ : S46)] : List (S46))) (inner := [.int .i64 5, .int .i64 9, .int .i64 0, .int .i64 5, .int .i64 20, .int .i64 30]) (ok := fun _ => True) (okp := fun _ => True) ?hr ?hp (fun _ hk => hk) trivial (Below.refl _ _) (Nat.le_refl _) (by simp) ?_; (case hd => rfl); (case hg => rfl); (case hr => first | (go_simp; done) | (go_simp; rfl)); (case hp => exact (Reps.c2 (show Kd.M k46 _ _ _ (⟨5, 9⟩ : S46) [.int .i64 5, .int .i64 9] from (k46_mkM _ _ _ (⟨5, 9⟩ : S46) )) (Reps.c2 (show Kd.M k46 _ _ _ (⟨0, 5⟩ : S46) [.int .i64 0, .int .i64 5] from (k46_mkM _ _ _ (⟨0, 5⟩ : S46) )) (Reps.c2 (show Kd.M k46 _ _ _ (⟨20, 30⟩ : S46) [.int .i64 20, .int .i64 30] from (k46_mkM _ _ _ (⟨20, 30⟩ : S46) )) (Reps.none _ _))))); intro v137 w20 ho21 hb hg_ hnew_; clear hg_ hnew_; (first | rw [← Ny136.out] at ho21 | (simp only [Int.reduceToNat] at ho21; rw [← Ny136.out] at ho21)); have HO138 := Aside0.mk (Kd.R_lower ho21 (below_size bel)); replace HB := Aside0.mk (below_step bel hb); clear hb ho21; obtain ⟨Ao22, co22, eo22⟩ := Kd.R_slice HO138.out; subst eo22) | ((with_reducible refine gate_callee (f := 12) rfl ?_); refine goesL_ (some 18) rfl rfl Tryd.func12 (by kernel_rfl) rfl #[.slice Ao22 y136.length co22] rfl mapz ?_; (with_reducible refine (mast_Clean.calls _ _ y136 t139 t140 _ ?side1 ?side2 A2.out).mono ?_); (case side1 => repeat (first | exact (Kd.R_reads' HO138.out).2.2 | (with_reducible refine Kd.C_alloc ?_ _) | (with_reducible refine Kd.C_drewN ?_ _) | (with_reducible refine Kd.C_drew ?_))); (case side2 => exact (Kd.R_reads' HO138.out).2.1); rintro e w23 ⟨v141, rfl, ho0, hb⟩; refine ⟨_, rfl, ?_⟩; have HO142 := Aside0.mk (Kd.R_lower (Kd.R_new' ho0 (Kd.R_lt (ownx HO138))) (below_size bel)); replace HO138 := Aside0.mk (Kd.R_elder' (ownx HO138) (Kd.R_base ho0) hb); replace HB := Aside0.mk (below_step bel hb); (try clear hb); (try clear hb2); (try clear hk); (try clear hi); (try clear ho0); obtain ⟨Ao24, co24, eo24⟩ := Kd.R_slice HO142.out; subst eo24) | ((with_reducible refine gate_callee (f := 41) rfl ?_); refine goesL_ (some 23) rfl rfl Tryd.func41 (by kernel_rfl) rfl #[.slice Ao24 t139.length co24] rfl mapz ?_; (with_reducible refine (mast_Format.calls k _ _ t139 t143 t144 _ ?side1 ?side2 (tbz HT) A3.out).mono ?_); (case side1 => repeat (first | exact (Kd.R_reads' HO142.out).2.2 | (with_reducible refine Kd.C_alloc ?_ _) | (with_reducible refine Kd.C_drewN ?_ _) | (with_reducible refine Kd.C_drew ?_))); (case side2 => exact (Kd.R_reads' HO142.out).2.1); rintro e w25 ⟨rfl, hb⟩; refine ⟨_, rfl, ?_⟩; replace HO138 := Aside0.mk (Kd.R_below (ownx HO138) hb); replace HO142 := Aside0.mk (Kd.R_below (ownx HO142) hb); replace HB := Aside0.mk (below_step bel hb); clear hb) | ((with_reducible refine gate_callee (f := 23) rfl ?_); refine goesL_ (some 28) rfl rfl Tryd.func23 (by kernel_rfl) rfl #[.slice Ao24 t139.length co24, .int .i64 15] rfl mapz ?_; (with_reducible refine (mast_Near.calls k _ _ t139 15 t145 t146 _ ?side1 ?side2 A4.out).mono ?_); (case side1 => repeat (first | exact (Kd.R_reads' HO142.out).2.2 | (with_reducible refine Kd.C_alloc ?_ _) | (with_reducible refine Kd.C_drewN ?_ _) | (with_reducible refine Kd.C_drew ?_))); (case side2 => exact (Kd.R_reads' HO142.out).2.1); rintro e w26 ⟨rfl, hb⟩; refine ⟨_, rfl, ?_⟩; replace HO138 := Aside0.mk (Kd.R_below (ownx HO138) hb); replace HO142 := Aside0.mk (Kd.R_below (ownx HO142) hb); replace HB := Aside0.mk (below_step bel hb); clear hb))
       go_ret
       exact ⟨ezz, bel⟩
     ·
      rw [if_neg c9] at H
      have c9b0 : (t134.toList == ([49, 50, 43, 51, 52, 53] : List UInt8)) = false := beq_eq_false_iff_ne.mpr c9
      have c9b1 : (t134.toList != ([49, 50, 43, 51, 52, 53] : List UInt8)) = true := bne_iff_ne.mpr c9
      obtain rfl := Option.some.inj H
      go_enter Tryd.func11, Tryd.ntmps11
      go_wp2_with (first | ((with_reducible refine gate_callee (f := 40) rfl ?_); refine goesL_ (some 10) rfl rfl Tryd.func40 (by kernel_rfl) rfl #[.int .i64 12345] rfl mapz ?_; (with_reducible refine (mast_FormatAt.calls 12345 t134 t135 _ (tbz HT) A1.out).mono ?_); rintro e w27 ⟨rfl, hb⟩; refine ⟨_, rfl, ?_⟩; replace HB := Aside0.mk (below_step bel hb); clear hb) | ((with_reducible refine gate_dst (N := 17) rfl ?_); refine Kd.R_lit k46 _ 46 ?hg (N := 17) ?hd (xs := ([(⟨5, 9⟩ : S46), (⟨0, 5⟩ : S46), (⟨20, 30⟩ : S46)] : List (S46))) (inner := [.int .i64 5, .int .i64 9, .int .i64 0, .int .i64 5, .int .i64 20, .int .i64 30]) (ok := fun _ => True) (okp := fun _ => True) ?hr ?hp (fun _ hk => hk) trivial (Below.refl _ _) (Nat.le_refl _) (by simp) ?_; (case hd => rfl); (case hg => rfl); (case hr => first | (go_simp; done) | (go_simp; rfl)); (case hp => exact (Reps.c2 (show Kd.M k46 _ _ _ (⟨5, 9⟩ : S46) [.int .i64 5, .int .i64 9] from (k46_mkM _ _ _ (⟨5, 9⟩ : S46) )) (Reps.c2 (show Kd.M k46 _ _ _ (⟨0, 5⟩ : S46) [.int .i64 0, .int .i64 5] from (k46_mkM _ _ _ (⟨0, 5⟩ : S46) )) (Reps.c2 (show Kd.M k46 _ _ _ (⟨20, 30⟩ : S46) [.int .i64 20, .int .i64 30] from (k46_mkM _ _ _ (⟨20, 30⟩ : S46) )) (Reps.none _ _))))); intro v137 w28 ho29 hb hg_ hnew_; clear hg_ hnew_; (first | rw [← Ny136.out] at ho29 | (simp only [Int.reduceToNat] at ho29; rw [← Ny136.out] at ho29)); have HO138 := Aside0.mk (Kd.R_lower ho29 (below_size bel)); replace HB := Aside0.mk (below_step bel hb); clear hb ho29; obtain ⟨Ao30, co30, eo30⟩ := Kd.R_slice HO138.out; subst eo30) | ((with_reducible refine gate_callee (f := 12) rfl ?_); refine goesL_ (some 18) rfl rfl Tryd.func12 (by kernel_rfl) rfl #[.slice Ao30 y136.length co30] rfl mapz ?_; (with_reducible refine (mast_Clean.calls _ _ y136 t139 t140 _ ?side1 ?side2 A2.out).mono ?_); (case side1 => repeat (first | exact (Kd.R_reads' HO138.out).2.2 | (with_reducible refine Kd.C_alloc ?_ _) | (with_reducible refine Kd.C_drewN ?_ _) | (with_reducible refine Kd.C_drew ?_))); (case side2 => exact (Kd.R_reads' HO138.out).2.1); rintro e w31 ⟨v141, rfl, ho0, hb⟩; refine ⟨_, rfl, ?_⟩; have HO142 := Aside0.mk (Kd.R_lower (Kd.R_new' ho0 (Kd.R_lt (ownx HO138))) (below_size bel)); replace HO138 := Aside0.mk (Kd.R_elder' (ownx HO138) (Kd.R_base ho0) hb); replace HB := Aside0.mk (below_step bel hb); (try clear hb); (try clear hb2); (try clear hk); (try clear hi); (try clear ho0); obtain ⟨Ao32, co32, eo32⟩ := Kd.R_slice HO142.out; subst eo32) | ((with_reducible refine gate_callee (f := 41) rfl ?_); refine goesL_ (some 23) rfl rfl Tryd.func41 (by kernel_rfl) rfl #[.slice Ao32 t139.length co32] rfl mapz ?_; (with_reducible refine (mast_Format.calls k _ _ t139 t143 t144 _ ?side1 ?side2 (tbz HT) A3.out).mono ?_); (case side1 => repeat (first | exact (Kd.R_reads' HO142.out).2.2 | (with_reducible refine Kd.C_alloc ?_ _) | (with_reducible refine Kd.C_drewN ?_ _) | (with_reducible refine Kd.C_drew ?_))); (case side2 => exact (Kd.R_reads' HO142.out).2.1); rintro e w33 ⟨rfl, hb⟩; refine ⟨_, rfl, ?_⟩; replace HO138 := Aside0.mk (Kd.R_below (ownx HO138) hb); replace HO142 := Aside0.mk (Kd.R_below (ownx HO142) hb); replace HB := Aside0.mk (below_step bel hb); clear hb) | ((with_reducible refine gate_callee (f := 23) rfl ?_); refine goesL_ (some 28) rfl rfl Tryd.func23 (by kernel_rfl) rfl #[.slice Ao32 t139.length co32, .int .i64 15] rfl mapz ?_; (with_reducible refine (mast_Near.calls k _ _ t139 15 t145 t146 _ ?side1 ?side2 A4.out).mono ?_); (case side1 => repeat (first | exact (Kd.R_reads' HO142.out).2.2 | (with_reducible refine Kd.C_alloc ?_ _) | (with_reducible refine Kd.C_drewN ?_ _) | (with_reducible refine Kd.C_drew ?_))); (case side2 => exact (Kd.R_reads' HO142.out).2.1); rintro e w34 ⟨rfl, hb⟩; refine ⟨_, rfl, ?_⟩; replace HO138 := Aside0.mk (Kd.R_below (ownx HO138) hb); replace HO142 := Aside0.mk (Kd.R_below (ownx HO142) hb); replace HB := Aside0.mk (below_step bel hb); clear hb))
      go_ret
      exact ⟨ezz, bel⟩
    ·
     rw [if_neg c8] at H
     have c8b0 : (t146 == 0) = false := beq_eq_false_iff_ne.mpr c8
     have c8b1 : (t146 != 0) = true := bne_iff_ne.mpr c8
     obtain rfl := Option.some.inj H
     go_enter Tryd.func11, Tryd.ntmps11
     go_wp2_with (first | ((with_reducible refine gate_callee (f := 40) rfl ?_); refine goesL_ (some 10) rfl rfl Tryd.func40 (by kernel_rfl) rfl #[.int .i64 12345] rfl mapz ?_; (with_reducible refine (mast_FormatAt.calls 12345 t134 t135 _ (tbz HT) A1.out).mono ?_); rintro e w35 ⟨rfl, hb⟩; refine ⟨_, rfl, ?_⟩; replace HB := Aside0.mk (below_step bel hb); clear hb) | ((with_reducible refine gate_dst (N := 17) rfl ?_); refine Kd.R_lit k46 _ 46 ?hg (N := 17) ?hd (xs := ([(⟨5, 9⟩ : S46), (⟨0, 5⟩ : S46), (⟨20, 30⟩ : S46)] : List (S46))) (inner := [.int .i64 5, .int .i64 9, .int .i64 0, .int .i64 5, .int .i64 20, .int .i64 30]) (ok := fun _ => True) (okp := fun _ => True) ?hr ?hp (fun _ hk => hk) trivial (Below.refl _ _) (Nat.le_refl _) (by simp) ?_; (case hd => rfl); (case hg => rfl); (case hr => first | (go_simp; done) | (go_simp; rfl)); (case hp => exact (Reps.c2 (show Kd.M k46 _ _ _ (⟨5, 9⟩ : S46) [.int .i64 5, .int .i64 9] from (k46_mkM _ _ _ (⟨5, 9⟩ : S46) )) (Reps.c2 (show Kd.M k46 _ _ _ (⟨0, 5⟩ : S46) [.int .i64 0, .int .i64 5] from (k46_mkM _ _ _ (⟨0, 5⟩ : S46) )) (Reps.c2 (show Kd.M k46 _ _ _ (⟨20, 30⟩ : S46) [.int .i64 20, .int .i64 30] from (k46_mkM _ _ _ (⟨20, 30⟩ : S46) )) (Reps.none _ _))))); intro v137 w36 ho37 hb hg_ hnew_; clear hg_ hnew_; (first | rw [← Ny136.out] at ho37 | (simp only [Int.reduceToNat] at ho37; rw [← Ny136.out] at ho37)); have HO138 := Aside0.mk (Kd.R_lower ho37 (below_size bel)); replace HB := Aside0.mk (below_step bel hb); clear hb ho37; obtain ⟨Ao38, co38, eo38⟩ := Kd.R_slice HO138.out; subst eo38) | ((with_reducible refine gate_callee (f := 12) rfl ?_); refine goesL_ (some 18) rfl rfl Tryd.func12 (by kernel_rfl) rfl #[.slice Ao38 y136.length co38] rfl mapz ?_; (with_reducible refine (mast_Clean.calls _ _ y136 t139 t140 _ ?side1 ?side2 A2.out).mono ?_); (case side1 => repeat (first | exact (Kd.R_reads' HO138.out).2.2 | (with_reducible refine Kd.C_alloc ?_ _) | (with_reducible refine Kd.C_drewN ?_ _) | (with_reducible refine Kd.C_drew ?_))); (case side2 => exact (Kd.R_reads' HO138.out).2.1); rintro e w39 ⟨v141, rfl, ho0, hb⟩; refine ⟨_, rfl, ?_⟩; have HO142 := Aside0.mk (Kd.R_lower (Kd.R_new' ho0 (Kd.R_lt (ownx HO138))) (below_size bel)); replace HO138 := Aside0.mk (Kd.R_elder' (ownx HO138) (Kd.R_base ho0) hb); replace HB := Aside0.mk (below_step bel hb); (try clear hb); (try clear hb2); (try clear hk); (try clear hi); (try clear ho0); obtain ⟨Ao40, co40, eo40⟩ := Kd.R_slice HO142.out; subst eo40) | ((with_reducible refine gate_callee (f := 41) rfl ?_); refine goesL_ (some 23) rfl rfl Tryd.func41 (by kernel_rfl) rfl #[.slice Ao40 t139.length co40] rfl mapz ?_; (with_reducible refine (mast_Format.calls k _ _ t139 t143 t144 _ ?side1 ?side2 (tbz HT) A3.out).mono ?_); (case side1 => repeat (first | exact (Kd.R_reads' HO142.out).2.2 | (with_reducible refine Kd.C_alloc ?_ _) | (with_reducible refine Kd.C_drewN ?_ _) | (with_reducible refine Kd.C_drew ?_))); (case side2 => exact (Kd.R_reads' HO142.out).2.1); rintro e w41 ⟨rfl, hb⟩; refine ⟨_, rfl, ?_⟩; replace HO138 := Aside0.mk (Kd.R_below (ownx HO138) hb); replace HO142 := Aside0.mk (Kd.R_below (ownx HO142) hb); replace HB := Aside0.mk (below_step bel hb); clear hb) | ((with_reducible refine gate_callee (f := 23) rfl ?_); refine goesL_ (some 28) rfl rfl Tryd.func23 (by kernel_rfl) rfl #[.slice Ao40 t139.length co40, .int .i64 15] rfl mapz ?_; (with_reducible refine (mast_Near.calls k _ _ t139 15 t145 t146 _ ?side1 ?side2 A4.out).mono ?_); (case side1 => repeat (first | exact (Kd.R_reads' HO142.out).2.2 | (with_reducible refine Kd.C_alloc ?_ _) | (with_reducible refine Kd.C_drewN ?_ _) | (with_reducible refine Kd.C_drew ?_))); (case side2 => exact (Kd.R_reads' HO142.out).2.1); rintro e w42 ⟨rfl, hb⟩; refine ⟨_, rfl, ?_⟩; replace HO138 := Aside0.mk (Kd.R_below (ownx HO138) hb); replace HO142 := Aside0.mk (Kd.R_below (ownx HO142) hb); replace HB := Aside0.mk (below_step bel hb); clear hb))
     go_ret
     exact ⟨ezz, bel⟩
   ·
    rw [if_neg c7] at H
    have c7b0 : (t144 == 0) = false := beq_eq_false_iff_ne.mpr c7
    have c7b1 : (t144 != 0) = true := bne_iff_ne.mpr c7
    obtain rfl := Option.some.inj H
    go_enter Tryd.func11, Tryd.ntmps11
    go_wp2_with (first | ((with_reducible refine gate_callee (f := 40) rfl ?_); refine goesL_ (some 10) rfl rfl Tryd.func40 (by kernel_rfl) rfl #[.int .i64 12345] rfl mapz ?_; (with_reducible refine (mast_FormatAt.calls 12345 t134 t135 _ (tbz HT) A1.out).mono ?_); rintro e w43 ⟨rfl, hb⟩; refine ⟨_, rfl, ?_⟩; replace HB := Aside0.mk (below_step bel hb); clear hb) | ((with_reducible refine gate_dst (N := 17) rfl ?_); refine Kd.R_lit k46 _ 46 ?hg (N := 17) ?hd (xs := ([(⟨5, 9⟩ : S46), (⟨0, 5⟩ : S46), (⟨20, 30⟩ : S46)] : List (S46))) (inner := [.int .i64 5, .int .i64 9, .int .i64 0, .int .i64 5, .int .i64 20, .int .i64 30]) (ok := fun _ => True) (okp := fun _ => True) ?hr ?hp (fun _ hk => hk) trivial (Below.refl _ _) (Nat.le_refl _) (by simp) ?_; (case hd => rfl); (case hg => rfl); (case hr => first | (go_simp; done) | (go_simp; rfl)); (case hp => exact (Reps.c2 (show Kd.M k46 _ _ _ (⟨5, 9⟩ : S46) [.int .i64 5, .int .i64 9] from (k46_mkM _ _ _ (⟨5, 9⟩ : S46) )) (Reps.c2 (show Kd.M k46 _ _ _ (⟨0, 5⟩ : S46) [.int .i64 0, .int .i64 5] from (k46_mkM _ _ _ (⟨0, 5⟩ : S46) )) (Reps.c2 (show Kd.M k46 _ _ _ (⟨20, 30⟩ : S46) [.int .i64 20, .int .i64 30] from (k46_mkM _ _ _ (⟨20, 30⟩ : S46) )) (Reps.none _ _))))); intro v137 w44 ho45 hb hg_ hnew_; clear hg_ hnew_; (first | rw [← Ny136.out] at ho45 | (simp only [Int.reduceToNat] at ho45; rw [← Ny136.out] at ho45)); have HO138 := Aside0.mk (Kd.R_lower ho45 (below_size bel)); replace HB := Aside0.mk (below_step bel hb); clear hb ho45; obtain ⟨Ao46, co46, eo46⟩ := Kd.R_slice HO138.out; subst eo46) | ((with_reducible refine gate_callee (f := 12) rfl ?_); refine goesL_ (some 18) rfl rfl Tryd.func12 (by kernel_rfl) rfl #[.slice Ao46 y136.length co46] rfl mapz ?_; (with_reducible refine (mast_Clean.calls _ _ y136 t139 t140 _ ?side1 ?side2 A2.out).mono ?_); (case side1 => repeat (first | exact (Kd.R_reads' HO138.out).2.2 | (with_reducible refine Kd.C_alloc ?_ _) | (with_reducible refine Kd.C_drewN ?_ _) | (with_reducible refine Kd.C_drew ?_))); (case side2 => exact (Kd.R_reads' HO138.out).2.1); rintro e w47 ⟨v141, rfl, ho0, hb⟩; refine ⟨_, rfl, ?_⟩; have HO142 := Aside0.mk (Kd.R_lower (Kd.R_new' ho0 (Kd.R_lt (ownx HO138))) (below_size bel)); replace HO138 := Aside0.mk (Kd.R_elder' (ownx HO138) (Kd.R_base ho0) hb); replace HB := Aside0.mk (below_step bel hb); (try clear hb); (try clear hb2); (try clear hk); (try clear hi); (try clear ho0); obtain ⟨Ao48, co48, eo48⟩ := Kd.R_slice HO142.out; subst eo48) | ((with_reducible refine gate_callee (f := 41) rfl ?_); refine goesL_ (some 23) rfl rfl Tryd.func41 (by kernel_rfl) rfl #[.slice Ao48 t139.length co48] rfl mapz ?_; (with_reducible refine (mast_Format.calls k _ _ t139 t143 t144 _ ?side1 ?side2 (tbz HT) A3.out).mono ?_); (case side1 => repeat (first | exact (Kd.R_reads' HO142.out).2.2 | (with_reducible refine Kd.C_alloc ?_ _) | (with_reducible refine Kd.C_drewN ?_ _) | (with_reducible refine Kd.C_drew ?_))); (case side2 => exact (Kd.R_reads' HO142.out).2.1); rintro e w49 ⟨rfl, hb⟩; refine ⟨_, rfl, ?_⟩; replace HO138 := Aside0.mk (Kd.R_below (ownx HO138) hb); replace HO142 := Aside0.mk (Kd.R_below (ownx HO142) hb); replace HB := Aside0.mk (below_step bel hb); clear hb) | ((with_reducible refine gate_callee (f := 23) rfl ?_); refine goesL_ (some 28) rfl rfl Tryd.func23 (by kernel_rfl) rfl #[.slice Ao48 t139.length co48, .int .i64 15] rfl mapz ?_; (with_reducible refine (mast_Near.calls k _ _ t139 15 t145 t146 _ ?side1 ?side2 A4.out).mono ?_); (case side1 => repeat (first | exact (Kd.R_reads' HO142.out).2.2 | (with_reducible refine Kd.C_alloc ?_ _) | (with_reducible refine Kd.C_drewN ?_ _) | (with_reducible refine Kd.C_drew ?_))); (case side2 => exact (Kd.R_reads' HO142.out).2.1); rintro e w50 ⟨rfl, hb⟩; refine ⟨_, rfl, ?_⟩; replace HO138 := Aside0.mk (Kd.R_below (ownx HO138) hb); replace HO142 := Aside0.mk (Kd.R_below (ownx HO142) hb); replace HB := Aside0.mk (below_step bel hb); clear hb))
    go_ret
    exact ⟨ezz, bel⟩
  ·
   rw [if_neg c6] at H
   have c6b0 : (t140 == 0) = false := beq_eq_false_iff_ne.mpr c6
   have c6b1 : (t140 != 0) = true := bne_iff_ne.mpr c6
   obtain rfl := Option.some.inj H
   go_enter Tryd.func11, Tryd.ntmps11
   go_wp2_with (first | ((with_reducible refine gate_callee (f := 40) rfl ?_); refine goesL_ (some 10) rfl rfl Tryd.func40 (by kernel_rfl) rfl #[.int .i64 12345] rfl mapz ?_; (with_reducible refine (mast_FormatAt.calls 12345 t134 t135 _ (tbz HT) A1.out).mono ?_); rintro e w51 ⟨rfl, hb⟩; refine ⟨_, rfl, ?_⟩; replace HB := Aside0.mk (below_step bel hb); clear hb) | ((with_reducible refine gate_dst (N := 17) rfl ?_); refine Kd.R_lit k46 _ 46 ?hg (N := 17) ?hd (xs := ([(⟨5, 9⟩ : S46), (⟨0, 5⟩ : S46), (⟨20, 30⟩ : S46)] : List (S46))) (inner := [.int .i64 5, .int .i64 9, .int .i64 0, .int .i64 5, .int .i64 20, .int .i64 30]) (ok := fun _ => True) (okp := fun _ => True) ?hr ?hp (fun _ hk => hk) trivial (Below.refl _ _) (Nat.le_refl _) (by simp) ?_; (case hd => rfl); (case hg => rfl); (case hr => first | (go_simp; done) | (go_simp; rfl)); (case hp => exact (Reps.c2 (show Kd.M k46 _ _ _ (⟨5, 9⟩ : S46) [.int .i64 5, .int .i64 9] from (k46_mkM _ _ _ (⟨5, 9⟩ : S46) )) (Reps.c2 (show Kd.M k46 _ _ _ (⟨0, 5⟩ : S46) [.int .i64 0, .int .i64 5] from (k46_mkM _ _ _ (⟨0, 5⟩ : S46) )) (Reps.c2 (show Kd.M k46 _ _ _ (⟨20, 30⟩ : S46) [.int .i64 20, .int .i64 30] from (k46_mkM _ _ _ (⟨20, 30⟩ : S46) )) (Reps.none _ _))))); intro v137 w52 ho53 hb hg_ hnew_; clear hg_ hnew_; (first | rw [← Ny136.out] at ho53 | (simp only [Int.reduceToNat] at ho53; rw [← Ny136.out] at ho53)); have HO138 := Aside0.mk (Kd.R_lower ho53 (below_size bel)); replace HB := Aside0.mk (below_step bel hb); clear hb ho53; obtain ⟨Ao54, co54, eo54⟩ := Kd.R_slice HO138.out; subst eo54) | ((with_reducible refine gate_callee (f := 12) rfl ?_); refine goesL_ (some 18) rfl rfl Tryd.func12 (by kernel_rfl) rfl #[.slice Ao54 y136.length co54] rfl mapz ?_; (with_reducible refine (mast_Clean.calls _ _ y136 t139 t140 _ ?side1 ?side2 A2.out).mono ?_); (case side1 => repeat (first | exact (Kd.R_reads' HO138.out).2.2 | (with_reducible refine Kd.C_alloc ?_ _) | (with_reducible refine Kd.C_drewN ?_ _) | (with_reducible refine Kd.C_drew ?_))); (case side2 => exact (Kd.R_reads' HO138.out).2.1); rintro e w55 ⟨v141, rfl, ho0, hb⟩; refine ⟨_, rfl, ?_⟩; have HO142 := Aside0.mk (Kd.R_lower (Kd.R_new' ho0 (Kd.R_lt (ownx HO138))) (below_size bel)); replace HO138 := Aside0.mk (Kd.R_elder' (ownx HO138) (Kd.R_base ho0) hb); replace HB := Aside0.mk (below_step bel hb); (try clear hb); (try clear hb2); (try clear hk); (try clear hi); (try clear ho0); obtain ⟨Ao56, co56, eo56⟩ := Kd.R_slice HO142.out; subst eo56) | ((with_reducible refine gate_callee (f := 41) rfl ?_); refine goesL_ (some 23) rfl rfl Tryd.func41 (by kernel_rfl) rfl #[.slice Ao56 t139.length co56] rfl mapz ?_; (with_reducible refine (mast_Format.calls k _ _ t139 t143 t144 _ ?side1 ?side2 (tbz HT) A3.out).mono ?_); (case side1 => repeat (first | exact (Kd.R_reads' HO142.out).2.2 | (with_reducible refine Kd.C_alloc ?_ _) | (with_reducible refine Kd.C_drewN ?_ _) | (with_reducible refine Kd.C_drew ?_))); (case side2 => exact (Kd.R_reads' HO142.out).2.1); rintro e w57 ⟨rfl, hb⟩; refine ⟨_, rfl, ?_⟩; replace HO138 := Aside0.mk (Kd.R_below (ownx HO138) hb); replace HO142 := Aside0.mk (Kd.R_below (ownx HO142) hb); replace HB := Aside0.mk (below_step bel hb); clear hb) | ((with_reducible refine gate_callee (f := 23) rfl ?_); refine goesL_ (some 28) rfl rfl Tryd.func23 (by kernel_rfl) rfl #[.slice Ao56 t139.length co56, .int .i64 15] rfl mapz ?_; (with_reducible refine (mast_Near.calls k _ _ t139 15 t145 t146 _ ?side1 ?side2 A4.out).mono ?_); (case side1 => repeat (first | exact (Kd.R_reads' HO142.out).2.2 | (with_reducible refine Kd.C_alloc ?_ _) | (with_reducible refine Kd.C_drewN ?_ _) | (with_reducible refine Kd.C_drew ?_))); (case side2 => exact (Kd.R_reads' HO142.out).2.1); rintro e w58 ⟨rfl, hb⟩; refine ⟨_, rfl, ?_⟩; replace HO138 := Aside0.mk (Kd.R_below (ownx HO138) hb); replace HO142 := Aside0.mk (Kd.R_below (ownx HO142) hb); replace HB := Aside0.mk (below_step bel hb); clear hb))
   go_ret
   exact ⟨ezz, bel⟩
 ·
  rw [if_neg c5] at H
  have c5b0 : (t135 == 0) = false := beq_eq_false_iff_ne.mpr c5
  have c5b1 : (t135 != 0) = true := bne_iff_ne.mpr c5
  obtain rfl := Option.some.inj H
  go_enter Tryd.func11, Tryd.ntmps11
  go_wp2_with (first | ((with_reducible refine gate_callee (f := 40) rfl ?_); refine goesL_ (some 10) rfl rfl Tryd.func40 (by kernel_rfl) rfl #[.int .i64 12345] rfl mapz ?_; (with_reducible refine (mast_FormatAt.calls 12345 t134 t135 _ (tbz HT) A1.out).mono ?_); rintro e w59 ⟨rfl, hb⟩; refine ⟨_, rfl, ?_⟩; replace HB := Aside0.mk (below_step bel hb); clear hb) | ((with_reducible refine gate_dst (N := 17) rfl ?_); refine Kd.R_lit k46 _ 46 ?hg (N := 17) ?hd (xs := ([(⟨5, 9⟩ : S46), (⟨0, 5⟩ : S46), (⟨20, 30⟩ : S46)] : List (S46))) (inner := [.int .i64 5, .int .i64 9, .int .i64 0, .int .i64 5, .int .i64 20, .int .i64 30]) (ok := fun _ => True) (okp := fun _ => True) ?hr ?hp (fun _ hk => hk) trivial (Below.refl _ _) (Nat.le_refl _) (by simp) ?_; (case hd => rfl); (case hg => rfl); (case hr => first | (go_simp; done) | (go_simp; rfl)); (case hp => exact (Reps.c2 (show Kd.M k46 _ _ _ (⟨5, 9⟩ : S46) [.int .i64 5, .int .i64 9] from (k46_mkM _ _ _ (⟨5, 9⟩ : S46) )) (Reps.c2 (show Kd.M k46 _ _ _ (⟨0, 5⟩ : S46) [.int .i64 0, .int .i64 5] from (k46_mkM _ _ _ (⟨0, 5⟩ : S46) )) (Reps.c2 (show Kd.M k46 _ _ _ (⟨20, 30⟩ : S46) [.int .i64 20, .int .i64 30] from (k46_mkM _ _ _ (⟨20, 30⟩ : S46) )) (Reps.none _ _))))); intro v137 w60 ho61 hb hg_ hnew_; clear hg_ hnew_; (first | rw [← Ny136.out] at ho61 | (simp only [Int.reduceToNat] at ho61; rw [← Ny136.out] at ho61)); have HO138 := Aside0.mk (Kd.R_lower ho61 (below_size bel)); replace HB := Aside0.mk (below_step bel hb); clear hb ho61; obtain ⟨Ao62, co62, eo62⟩ := Kd.R_slice HO138.out; subst eo62) | ((with_reducible refine gate_callee (f := 12) rfl ?_); refine goesL_ (some 18) rfl rfl Tryd.func12 (by kernel_rfl) rfl #[.slice Ao62 y136.length co62] rfl mapz ?_; (with_reducible refine (mast_Clean.calls _ _ y136 t139 t140 _ ?side1 ?side2 A2.out).mono ?_); (case side1 => repeat (first | exact (Kd.R_reads' HO138.out).2.2 | (with_reducible refine Kd.C_alloc ?_ _) | (with_reducible refine Kd.C_drewN ?_ _) | (with_reducible refine Kd.C_drew ?_))); (case side2 => exact (Kd.R_reads' HO138.out).2.1); rintro e w63 ⟨v141, rfl, ho0, hb⟩; refine ⟨_, rfl, ?_⟩; have HO142 := Aside0.mk (Kd.R_lower (Kd.R_new' ho0 (Kd.R_lt (ownx HO138))) (below_size bel)); replace HO138 := Aside0.mk (Kd.R_elder' (ownx HO138) (Kd.R_base ho0) hb); replace HB := Aside0.mk (below_step bel hb); (try clear hb); (try clear hb2); (try clear hk); (try clear hi); (try clear ho0); obtain ⟨Ao64, co64, eo64⟩ := Kd.R_slice HO142.out; subst eo64) | ((with_reducible refine gate_callee (f := 41) rfl ?_); refine goesL_ (some 23) rfl rfl Tryd.func41 (by kernel_rfl) rfl #[.slice Ao64 t139.length co64] rfl mapz ?_; (with_reducible refine (mast_Format.calls k _ _ t139 t143 t144 _ ?side1 ?side2 (tbz HT) A3.out).mono ?_); (case side1 => repeat (first | exact (Kd.R_reads' HO142.out).2.2 | (with_reducible refine Kd.C_alloc ?_ _) | (with_reducible refine Kd.C_drewN ?_ _) | (with_reducible refine Kd.C_drew ?_))); (case side2 => exact (Kd.R_reads' HO142.out).2.1); rintro e w65 ⟨rfl, hb⟩; refine ⟨_, rfl, ?_⟩; replace HO138 := Aside0.mk (Kd.R_below (ownx HO138) hb); replace HO142 := Aside0.mk (Kd.R_below (ownx HO142) hb); replace HB := Aside0.mk (below_step bel hb); clear hb) | ((with_reducible refine gate_callee (f := 23) rfl ?_); refine goesL_ (some 28) rfl rfl Tryd.func23 (by kernel_rfl) rfl #[.slice Ao64 t139.length co64, .int .i64 15] rfl mapz ?_; (with_reducible refine (mast_Near.calls k _ _ t139 15 t145 t146 _ ?side1 ?side2 A4.out).mono ?_); (case side1 => repeat (first | exact (Kd.R_reads' HO142.out).2.2 | (with_reducible refine Kd.C_alloc ?_ _) | (with_reducible refine Kd.C_drewN ?_ _) | (with_reducible refine Kd.C_drew ?_))); (case side2 => exact (Kd.R_reads' HO142.out).2.1); rintro e w66 ⟨rfl, hb⟩; refine ⟨_, rfl, ?_⟩; replace HO138 := Aside0.mk (Kd.R_below (ownx HO138) hb); replace HO142 := Aside0.mk (Kd.R_below (ownx HO142) hb); replace HB := Aside0.mk (below_step bel hb); clear hb))
  go_ret
  exact ⟨ezz, bel⟩

/-! ### dropperref01_isAt: function 57 -/
def dropperref01_isAt.f (a0 : Int) : Option (Bool) := if a0 ≥ 0 then (some (decide (a0 ≤ 100000))) else (some false)
set_option maxHeartbeats 8000000 in
set_option maxRecDepth 100000 in
theorem dropperref01_isAt.calls (a0 : Int) (r : Bool) (w : World) (h : dropperref01_isAt.f a0 = some r) :
  Calls Tryd.prog 57 #[.int .i64 a0] w fun e w' => e = .returned (.bool r) ∧ Drawn0 w w' := by
 have H : (if a0 ≥ 0 then (some (decide (a0 ≤ 100000))) else (some false)) = some r := h
 clear h
 by_cases c2 : a0 ≥ 0
 ·
  rw [if_pos c2] at H
  have c2b0 : decide (0 ≤ a0) = true := decide_eq_true c2
  clear c2
  obtain rfl := Option.some.inj H
  go_enter Tryd.func57, Tryd.ntmps57
  go_wp2
  go_ret
  exact ⟨by first | rfl | (simp; done) | (simp [*]; done), drz⟩
 ·
  rw [if_neg c2] at H
  have c2b0 : decide (0 ≤ a0) = false := decide_eq_false c2
  clear c2
  obtain rfl := Option.some.inj H
  go_enter Tryd.func57, Tryd.ntmps57
  go_wp2
  go_ret
  exact ⟨by first | rfl | (simp; done) | (simp [*]; done), drz⟩

/-! ### dropperref01_isStretch: function 63 -/
def dropperref01_isStretch.f (a0_0 : Int) (a0_1 : Int) : Option (Bool) := (dropperref01_isAt.f a0_0).bind fun t148 => (if t148 = true then ((dropperref01_isAt.f a0_1).bind fun t149 => (if t149 = true then (some (decide (a0_0 < a0_1))) else (some false))) else (some false))
set_option maxHeartbeats 8000000 in
set_option maxRecDepth 100000 in
theorem dropperref01_isStretch.calls (a0_0 : Int) (a0_1 : Int) (r : Bool) (w : World) (h : dropperref01_isStretch.f a0_0 a0_1 = some r) :
  Calls Tryd.prog 63 #[.agg #[.int .i64 a0_0, .int .i64 a0_1]] w fun e w' => e = .returned (.bool r) ∧ Below w.heap.size w w' := by
 have hu46 := Tryd.underlying46
 have HB := Aside0.mk (Below.refl w.heap.size w)
 have H : ((dropperref01_isAt.f a0_0).bind fun t148 => (if t148 = true then ((dropperref01_isAt.f a0_1).bind fun t149 => (if t149 = true then (some (decide (a0_0 < a0_1))) else (some false))) else (some false))) = some r := h
 clear h
 replace H := Option.bind_eq_some_iff.mp H
 obtain ⟨t148, A20, H⟩ := H
 try dsimp only at H
 have A2 := Aside0.mk A20
 clear A20
 by_cases c3 : t148 = true
 ·
  subst c3
  rw [if_pos rfl] at H
  replace H := Option.bind_eq_some_iff.mp H
  obtain ⟨t149, A40, H⟩ := H
  try dsimp only at H
  have A4 := Aside0.mk A40
  clear A40
  by_cases c5 : t149 = true
  ·
   subst c5
   rw [if_pos rfl] at H
   obtain rfl := Option.some.inj H
   go_enter Tryd.func63, Tryd.ntmps63
   go_wp2_with (first | ((with_reducible refine gate_dst (N := 1) rfl ?_); refine box_event ?hg (N := 1) ?hd (cs := #[.int .i64 a0_0, .int .i64 a0_1]) (t := 46) ?hr ?_; (case hd => rfl); (case hg => rfl); (case hr => first | (go_simp; done) | (go_simp; rfl)); intro gb147 hg w6 hbox hb; have BK147 := Aside0.mk (hbox); have GW147 := bsz (w := w) hg; have GE147 := GW147; replace HB := Aside0.mk (below_step bel hb); clear hb hbox hg; obtain ⟨hcz7_0, hcz7_1⟩ := bc2 BK147.out) | ((with_reducible refine gate_callee (f := 57) rfl ?_); refine goesL_ (some 5) rfl rfl Tryd.func57 (by kernel_rfl) rfl #[.int .i64 a0_0] rfl mapz ?_; (with_reducible refine (dropperref01_isAt.calls a0_0 true _ A2.out).mono ?_); rintro e w' ⟨rfl, ⟨nd, rfl⟩⟩; refine ⟨_, rfl, ?_⟩) | (go_at_call 57; (with_reducible refine (dropperref01_isAt.calls a0_1 true _ A4.out).mono ?_); rintro e w' ⟨rfl, ⟨nd, rfl⟩⟩))
   go_ret
   exact ⟨ezz, bel⟩
  ·
   replace c5 := Bool.eq_false_iff.mpr c5
   subst c5
   rw [if_neg (show ¬ (false = true) by decide)] at H
   obtain rfl := Option.some.inj H
   go_enter Tryd.func63, Tryd.ntmps63
   go_wp2_with (first | ((with_reducible refine gate_dst (N := 1) rfl ?_); refine box_event ?hg (N := 1) ?hd (cs := #[.int .i64 a0_0, .int .i64 a0_1]) (t := 46) ?hr ?_; (case hd => rfl); (case hg => rfl); (case hr => first | (go_simp; done) | (go_simp; rfl)); intro gb147 hg w8 hbox hb; have BK147 := Aside0.mk (hbox); have GW147 := bsz (w := w) hg; have GE147 := GW147; replace HB := Aside0.mk (below_step bel hb); clear hb hbox hg; obtain ⟨hcz9_0, hcz9_1⟩ := bc2 BK147.out) | ((with_reducible refine gate_callee (f := 57) rfl ?_); refine goesL_ (some 5) rfl rfl Tryd.func57 (by kernel_rfl) rfl #[.int .i64 a0_0] rfl mapz ?_; (with_reducible refine (dropperref01_isAt.calls a0_0 true _ A2.out).mono ?_); rintro e w' ⟨rfl, ⟨nd, rfl⟩⟩; refine ⟨_, rfl, ?_⟩) | (go_at_call 57; (with_reducible refine (dropperref01_isAt.calls a0_1 false _ A4.out).mono ?_); rintro e w' ⟨rfl, ⟨nd, rfl⟩⟩))
   go_ret
   exact ⟨ezz, bel⟩
 ·
  replace c3 := Bool.eq_false_iff.mpr c3
  subst c3
  rw [if_neg (show ¬ (false = true) by decide)] at H
  obtain rfl := Option.some.inj H
  go_enter Tryd.func63, Tryd.ntmps63
  go_wp2_with (first | ((with_reducible refine gate_dst (N := 1) rfl ?_); refine box_event ?hg (N := 1) ?hd (cs := #[.int .i64 a0_0, .int .i64 a0_1]) (t := 46) ?hr ?_; (case hd => rfl); (case hg => rfl); (case hr => first | (go_simp; done) | (go_simp; rfl)); intro gb147 hg w10 hbox hb; have BK147 := Aside0.mk (hbox); have GW147 := bsz (w := w) hg; have GE147 := GW147; replace HB := Aside0.mk (below_step bel hb); clear hb hbox hg; obtain ⟨hcz11_0, hcz11_1⟩ := bc2 BK147.out) | ((with_reducible refine gate_callee (f := 57) rfl ?_); refine goesL_ (some 5) rfl rfl Tryd.func57 (by kernel_rfl) rfl #[.int .i64 a0_0] rfl mapz ?_; (with_reducible refine (dropperref01_isAt.calls a0_0 false _ A2.out).mono ?_); rintro e w' ⟨rfl, ⟨nd, rfl⟩⟩; refine ⟨_, rfl, ?_⟩))
  go_ret
  exact ⟨ezz, bel⟩

/-! ### dropperref01_raw: function 42 -/
def dropperref01_raw.l0 : Nat → List (S46) → Int → Option (Bool)
 | 0, _, _ => none
 | k + 1, x0, x3 => if x3 < (x0.length : Int) then (if 0 ≤ x3 then ((dropperref01_isStretch.f ((rd_T46 x0 x3).f0) ((rd_T46 x0 x3).f1)).bind fun t151 => (if t151 = true then (dropperref01_raw.l0 k x0 (wrap64 (x3 + 1))) else (some false))) else (none)) else (some (decide ((x0.length : Int) ≤ 200)))
def dropperref01_raw.f (k : Nat) (l0 : List (S46)) : Option (Bool) := dropperref01_raw.l0 k l0 0
set_option maxHeartbeats 8000000 in
set_option maxRecDepth 100000 in
theorem dropperref01_raw.calls (k : Nat) (A0 : Option Addr) (c0 : Nat) (l0 : List (S46)) (r : Bool) (w : World) (hr0 : Kd.C k46 w A0 l0.length l0) (hc0 : l0.length ≤ c0) (h : dropperref01_raw.f k l0 = some r) :
  Calls Tryd.prog 42 #[.slice A0 l0.length c0] w fun e w' => e = .returned (.bool r) ∧ Below w.heap.size w w' := by
 have hu46 := Tryd.underlying46
 have HR0 := Aside0.mk hr0
 have HC0 := Aside0.mk hc0
 clear hr0 hc0
 have HB := Aside0.mk (Below.refl w.heap.size w)
 have H : (dropperref01_raw.l0 k l0 0) = some r := h
 clear h
 have H' := Aside0.mk H
 clear H
 go_enter Tryd.func42, Tryd.ntmps42
 go_wp2
 go_loopg [3] k (fun kq v3 w' => ∃ (x3_1 : Int), v3 = .int .i64 x3_1 ∧ Aside0 (dropperref01_raw.l0 kq l0 x3_1 = some r) ∧ Aside0 (kq ≤ k) ∧ Aside0 (Below w.heap.size w w'))
 case atStart => exact ⟨(0), rsz, H', ⟨Nat.le_refl _⟩, ⟨bel⟩⟩
 case round =>
  clear H'
  obtain ⟨x3_1, rfl, HA, HK1, HB⟩ := hrel
  cases gk with
  | zero => exact absurd HA.out (by simp [dropperref01_raw.l0])
  | succ k1 =>
   have H := HA.out
   clear HA
   simp only [dropperref01_raw.l0] at H
   by_cases c2 : x3_1 < (l0.length : Int)
   ·
    rw [if_pos c2] at H
    have c2b0 : decide (x3_1 < (l0.length : Int)) = true := decide_eq_true c2
    clear c2
    by_cases c3 : 0 ≤ x3_1
    ·
     rw [if_pos c3] at H
     have c3b0 : decide (0 ≤ x3_1) = true := decide_eq_true c3
     clear c3
     replace H := Option.bind_eq_some_iff.mp H
     obtain ⟨t151, A40, H⟩ := H
     try dsimp only at H
     have A4 := Aside0.mk A40
     clear A40
     by_cases c5 : t151 = true
     ·
      subst c5
      rw [if_pos rfl] at H
      have H' := Aside0.mk H
      clear H
      have p150 : 0 ≤ (x3_1 : Int) := of_decide_eq_true asz
      have q150 : x3_1 < (l0.length : Int) := of_decide_eq_true asz
      obtain ⟨ad150, e150, hx150_0, hx150_1⟩ := at_T46 HR0.out x3_1 p150 q150
      cases e150
      replace hx150_0 := (HB.out.cell (World.block_lt_of_cell? w _ hx150_0)).trans hx150_0
      replace hx150_1 := (HB.out.cell (World.block_lt_of_cell? w _ hx150_1)).trans hx150_1
      replace p150 := eq_true p150
      replace q150 := eq_true q150
      go_wp2_with (first | ((with_reducible refine gate_callee (f := 63) rfl ?_); refine goesL_ (some 14) rfl rfl Tryd.func63 (by kernel_rfl) rfl #[.agg #[.int .i64 ((rd_T46 l0 x3_1).f0), .int .i64 ((rd_T46 l0 x3_1).f1)]] rfl mapz ?_; (with_reducible refine (dropperref01_isStretch.calls ((rd_T46 l0 x3_1).f0) ((rd_T46 l0 x3_1).f1) true _ A4.out).mono ?_); rintro e w6 ⟨rfl, hb⟩; refine ⟨_, rfl, ?_⟩; replace HB := Aside0.mk (below_step bel hb); clear hb))
      go_roundg k1
      case measure => have := HK1.out; omega
      case rel => exact ⟨(wrap64 (x3_1 + 1)), rsz, H', ⟨by have := HK1.out; omega⟩, ⟨bel⟩⟩
     ·
      replace c5 := Bool.eq_false_iff.mpr c5
      subst c5
      rw [if_neg (show ¬ (false = true) by decide)] at H
      obtain rfl := Option.some.inj H
      have p150 : 0 ≤ (x3_1 : Int) := of_decide_eq_true asz
      have q150 : x3_1 < (l0.length : Int) := of_decide_eq_true asz
      obtain ⟨ad150, e150, hx150_0, hx150_1⟩ := at_T46 HR0.out x3_1 p150 q150
      cases e150
      replace hx150_0 := (HB.out.cell (World.block_lt_of_cell? w _ hx150_0)).trans hx150_0
      replace hx150_1 := (HB.out.cell (World.block_lt_of_cell? w _ hx150_1)).trans hx150_1
      replace p150 := eq_true p150
      replace q150 := eq_true q150
      go_wp2_with (first | ((with_reducible refine gate_callee (f := 63) rfl ?_); refine goesL_ (some 14) rfl rfl Tryd.func63 (by kernel_rfl) rfl #[.agg #[.int .i64 ((rd_T46 l0 x3_1).f0), .int .i64 ((rd_T46 l0 x3_1).f1)]] rfl mapz ?_; (with_reducible refine (dropperref01_isStretch.calls ((rd_T46 l0 x3_1).f0) ((rd_T46 l0 x3_1).f1) false _ A4.out).mono ?_); rintro e w7 ⟨rfl, hb⟩; refine ⟨_, rfl, ?_⟩; replace HB := Aside0.mk (below_step bel hb); clear hb))
      go_ret
      exact ⟨ezz, bel⟩
    ·
     rw [if_neg c3] at H
     exact absurd H (by simp)
   ·
    rw [if_neg c2] at H
    have c2b0 : decide (x3_1 < (l0.length : Int)) = false := decide_eq_false c2
    clear c2
    obtain rfl := Option.some.inj H
    go_wp2
    go_ret
    exact ⟨ezz, bel⟩

end Go.Proofs.YtcmdcgghpkcchaaDoor.XMast
/- put, walked: a number into an ascending list. -/
namespace Go.Proofs.YtcmdcgghpkcchaaDoor.Put
set_option linter.unusedVariables false
set_option linter.unusedSimpArgs false
open Go.RowKit Go.Proofs.YtcmdcgghpkcchaaDoor.XMast Go.Proofs.YtcmdcgghpkcchaaDoorW.PrintWords Go.Proofs.YtcmdcgghpkcchaaDoorW.PrintLast Go.Proofs.YtcmdcgghpkcchaaDoorW.PrintMore
theorem rd_eq_ (l : List Int) (i : Nat) (h : i < l.length) : rd l (i : Int) = l[i] := by simp [rd, List.getD_eq_getElem?_getD, h]
def idx (l : List Int) (n : Int) : Nat := (l.takeWhile fun x => decide (x < n)).length
def putF (l : List Int) (n : Int) : List Int := if l[idx l n]? = some n then l else l.take (idx l n) ++ n :: l.drop (idx l n)
theorem idx_le (l : List Int) (n : Int) : idx l n ≤ l.length := (List.takeWhile_sublist _).length_le
theorem idx_of : ∀ (l : List Int) (n : Int) (k : Nat), k ≤ l.length → (∀ j (h : j < l.length), j < k → l[j] < n) → (∀ h : k < l.length, ¬ l[k] < n) → idx l n = k
 | [], n, k, hk, _, _ => by simp at hk; subst hk; rfl
 | x :: l, n, 0, _, _, h2 => by
  have := h2 (by simp)
  simp only [List.getElem_cons_zero] at this
  simp [idx, List.takeWhile_cons, this]
 | x :: l, n, k + 1, hk, h1, h2 => by
  have h0 := h1 0 (by simp) (by omega)
  simp only [List.getElem_cons_zero] at h0
  have ih := idx_of l n k (by simpa using hk) (fun j hj hjk => by have := h1 (j + 1) (by simpa using hj) (by omega); simpa using this) (fun hh => by have := h2 (by simpa using hh); simpa using this)
  unfold idx at ih ⊢
  rw [List.takeWhile_cons, if_pos (by simpa using h0), List.length_cons, ih]
theorem row_cells {W : World} {base : Nat} {ok : Nat → Prop} {v : Value} {xs : List Int} (h : (Kd.int .i64).R 3 W base ok v xs) (h0 : 0 < xs.length) :
  ∃ ad c, v = .slice (some ad) xs.length c ∧ ∀ j u, (xs.map (Value.int .i64))[j]? = some u → W.cell? (ad.add j) = some u := by
 obtain ⟨A, c, rfl, _, hr⟩ := Kd.R_reads h
 obtain ⟨ad, rfl, hc⟩ := (Kd.reads_of_C (d := (0 : Int)) hr).2.2 h0
 refine ⟨ad, c, rfl, fun j u hu => ?_⟩
 have hj : j < xs.length := by have := (List.getElem?_eq_some_iff.1 hu).1; simpa using this
 rw [hc j hj, ← hu]
 simp [List.getD_eq_getElem?_getD, hj]
def PutP (l : List Int) (n : Int) (base : Nat) (w : World) (e : Ending) (w' : World) : Prop := ∃ v', e = .returned v' ∧ (Kd.int .i64).R 3 w' base (fun _ => True) v' (putF l n) ∧ Below w.heap.size w w'
theorem infoI : (Tryd.prog.info? 3).map (fun i => (i.zero, i.size, i.bytes)) = some (some (.int .i64 0), 1, 8) := by kernel_rfl
set_option maxHeartbeats 4000000 in
set_option maxRecDepth 100000 in
theorem put (v : Value) (l : List Int) (n : Int) (base : Nat) (w : World) (hv : (Kd.int .i64).R 3 w base (fun _ => True) v l) (hl0 : 0 < l.length) (hl : l.length ≤ 1000) (hb : base ≤ w.heap.size) :
  Calls Tryd.prog 75 #[v, .int .i64 n] w (PutP l n base w) := by
 have hown := Kd.own_of_R hv
 rcases hown.2 with ⟨_, h0⟩ | ⟨g, cap, cur, rfl, hg, hh, hnc, hcm, hcs, ht⟩
 ·
  omega
 obtain ⟨i0, hi, hz0, hz1, hz2⟩ := info_parts infoI
 have HV := Aside0.mk hv
 have HRD := Aside0.mk (Kd.R_reads' hv).2.2
 have HOWN := Aside0.mk hown
 have HHB := Aside0.mk hb
 have HG := Aside0.mk (And.intro hg (Array.getElem?_eq_some_iff.1 hh).1)
 clear hv hown hh hcs ht hb hg
 go_enter Tryd.func75, Tryd.ntmps75
 go_wp2
 go_loopg [5] l.length (fun kq v5 wz => ∃ k : Nat, v5 = .int .i64 k ∧ Aside0 (k ≤ l.length) ∧ Aside0 (∀ j (h : j < l.length), j < k → l[j] < n) ∧ Aside0 (kq = l.length - k) ∧ wz = w)
 case atStart => exact ⟨0, rfl, ⟨by omega⟩, ⟨fun _ _ h => by omega⟩, ⟨by omega⟩, rfl⟩
 case round =>
  obtain ⟨k, rfl, HK, HJ, HQ, rfl⟩ := hrel
  by_cases hlt : k < l.length
  ·
   have hltz : (k : Int) < (l.length : Int) := by omega
   obtain ⟨ad, e1, hx⟩ := Kd.at_int HRD.out (k : Int) (by omega) (by omega)
   cases e1
   rw [rd_eq_ l k hlt, Int.toNat_natCast, add_plain] at hx
   by_cases hn : l[k] < n
   ·
    have b1 : decide (l[k] < n) = true := decide_eq_true hn
    obtain ⟨x, ex⟩ : ∃ x, x = l[k] := ⟨_, rfl⟩
    rw [← ex] at hx b1
    have HX := Aside0.mk (show l[k] < n from hn)
    clear ex hn
    go_wp2
    go_roundg (l.length - (k + 1))
    case measure => have := HQ.out; omega
    case rel => exact ⟨k + 1, by simp, ⟨by omega⟩, ⟨fun j h hj => by by_cases e : j = k; (subst e; exact HX.out); exact HJ.out j h (by omega)⟩, ⟨rfl⟩, rfl⟩
   ·
    have hi : idx l n = k := idx_of l n k (by omega) HJ.out (fun _ => hn)
    by_cases he : l[k] = n
    ·
     have hp : putF l n = l := by unfold putF; rw [hi, List.getElem?_eq_getElem hlt, if_pos (by rw [he])]
     have b1 : decide (l[k] < n) = false := decide_eq_false hn
     have b2 : (l[k] == n) = true := by simp [he]
     obtain ⟨x, ex⟩ : ∃ x, x = l[k] := ⟨_, rfl⟩
     rw [← ex] at hx b1 b2
     have HP := Aside0.mk hp
     clear ex hn he hi hp
     go_wp2
     go_ret
     exact ⟨_, rfl, by rw [HP.out]; exact HV.out, Below.refl _ _⟩
    ·
     have hp : putF l n = l.take k ++ n :: l.drop k := by unfold putF; rw [hi, List.getElem?_eq_getElem hlt, if_neg (by simpa using he)]
     have b1 : decide (l[k] < n) = false := decide_eq_false hn
     have b2 : (l[k] == n) = false := by simp [he]
     obtain ⟨x, ex⟩ : ∃ x, x = l[k] := ⟨_, rfl⟩
     rw [← ex] at hx b1 b2
     have HP := Aside0.mk hp
     clear ex hn he hi hp
     have z0 : (0 : Int) ≤ (k : Int) := by omega
     have z1 : (k : Int) ≤ (l.length : Int) := by omega
     have z2 : (k : Int) ≤ (cap : Int) := by omega
     have z3 : (l.length : Int) ≤ (cap : Int) := by omega
     have hkl : l.length - k ≤ 1000 := by omega
     have HTL : Aside0 (ReadsRow (fun (x : Int) (cs : List Value) => cs = [Value.int .i64 x]) 1 wr (if cap = k then some ⟨g, 0, none⟩ else some ⟨g, k, none⟩) (l.length - k) (l.drop k)) := ⟨by
      have := Kd.C_drop (m := k) (c := cap) HRD.out (by omega) hnc
      rw [List.length_drop] at this
      simp only [Option.map_some, add_plain, show (Kd.int IntKind.i64).sz = 1 from rfl, Nat.mul_one] at this
      exact this⟩
     have HTK : Aside0 (∀ j u, ((l.take k).map (Value.int .i64))[j]? = some u → wr.cell? (Addr.add ⟨g, 0, none⟩ j) = some u) := ⟨fun j u hu => by
      have hj : j < k := by
       have h1 := (List.getElem?_eq_some_iff.1 hu).1
       simp only [List.length_map, List.length_take] at h1
       omega
      obtain ⟨ad2, e2, hx2⟩ := Kd.at_int HRD.out (j : Int) (by omega) (by omega)
      cases e2
      rw [rd_eq_ l j (by omega), Int.toNat_natCast] at hx2
      rw [hx2, ← hu, List.getElem?_map, List.getElem?_take_of_lt hj, List.getElem?_eq_getElem (by omega)]; rfl⟩
     have HL := Aside0.mk hl
     have HNC := Aside0.mk hnc
     go_wp2
     go_region_held3 (fun _ => True) (trivial) (first | (refine Kd.R_append_rows_step (Kd.int .i64) (Rr := fun (x : Int) (cs : List Value) => cs = [Value.int .i64 x]) wr.heap.size (by rfl) (.tmp 38) (.tmp 41) 55 3 (.int .i64 0) 8 (by rfl) Tryd.underlying55 infoI (by rfl) (by decide) (by omega) (.slice (some ⟨wr.heap.size, 0, none⟩) 1 1) [n] (l.drop k) (if cap = k then some ⟨g, 0, none⟩ else some ⟨g, k, none⟩) (l.length - k) (cap - k) (fun _ => True) (fun _ => False) (by rfl) (by rfl) (Kd.R_drew (Kd.R_of_own (enc := Value.int .i64) (h1 := fun _ => rfl) (own_lit _ _ _ _ [n] (Nat.le_refl _) (by simp)) (fun _ _ => trivial))) (HTL.out.imp_ (below_drew1 (below_alloc (Below.refl _ _) _)) (fun _ _ h => h)) (fun _ _ h => h) (fun _ h => h.elim) (fun _ _ => trivial) (below_drew1 (below_alloc (Below.refl _ _) _)) (by simp) (by first | (simp; done) | (simp; omega)) ?_; intro v1 w1 ho hb hg hat; obtain ⟨ad1, c1, hv1, hcl1⟩ := row_cells ho (by simp); subst hv1; have HCL1 := Aside0.mk hcl1; have HB1 := Aside0.mk hb; clear ho hb hg hat hcl1) | (refine step_append_grows (by rfl) (.tmp 36) (.tmp 42) 55 (by rfl) 3 i0 (.int .i64 0) 1 8 Tryd.underlying55 hi hz0 hz1 hz2 (by rfl) (by omega) (some ⟨g, 0, none⟩) k k ((l.take k).map (Value.int .i64)) (by rfl) (fun h => by cases h) (by first | (simp; done) | (simp; omega)) (fun b hb j u hu => by cases hb; exact pw_cell_below HB1.out (HTK.out j u hu)) ad1 ([n] ++ l.drop k).length c1 (([n] ++ l.drop k).map (Value.int .i64)) (by rfl) (by simp) HCL1.out (by intro u hu; obtain ⟨y, _, rfl⟩ := List.mem_map.1 hu; rfl) (by first | (simp; done) | (simp; omega)) (by first | (simp [maxLen]; done) | (simp [maxLen]; omega)) (by first | (simp; done) | (simp; omega)) ?_; intro v2 w2 ho2 hg2; have HO2 := Aside0.mk ho2; have HG2 := Aside0.mk hg2; clear ho2 hg2))
     go_wp2
     all_goals
      go_ret
      refine ⟨_, rfl, ?_, ?_⟩
      ·
       rw [HP.out]
       have hs1 := below_size HB1.out
       refine Kd.R_lower (base := w1.heap.size) (Kd.R_of_own (enc := Value.int .i64) (h1 := fun _ => rfl) ?_ (fun _ _ => trivial)) (Nat.le_trans HHB.out hs1)
       have h3 := HO2.out
       rw [← List.map_append] at h3
       have h4 : k + ([n] ++ l.drop k).length = (l.take k ++ n :: l.drop k).length := by simp; omega
       rw [h4] at h3
       exact h3
      ·
       exact HB1.out.grown HG2.out (below_size HB1.out) (fun _ h => by cases h)
  ·
   have hke : k = l.length := by have := HK.out; omega
   have hi2 : idx l n = k := idx_of l n k (by omega) HJ.out (fun h => absurd h hlt)
   have hp : putF l n = l.take k ++ n :: l.drop k := by unfold putF; rw [hi2, List.getElem?_eq_none (by omega), if_neg (by simp)]
   have HP := Aside0.mk hp
   clear hp hi2
   have z0 : (0 : Int) ≤ (k : Int) := by omega
   have z1 : (k : Int) ≤ (l.length : Int) := by omega
   have z2 : (k : Int) ≤ (cap : Int) := by omega
   have z3 : (l.length : Int) ≤ (cap : Int) := by omega
   have z4 : ¬ (k : Int) < (l.length : Int) := by omega
   have hkl2 : k ≤ l.length := by omega
   clear hke
   have hkl : l.length - k ≤ 1000 := by omega
   have HTL : Aside0 (ReadsRow (fun (x : Int) (cs : List Value) => cs = [Value.int .i64 x]) 1 wr (if cap = k then some ⟨g, 0, none⟩ else some ⟨g, k, none⟩) (l.length - k) (l.drop k)) := ⟨by
    have := Kd.C_drop (m := k) (c := cap) HRD.out (by omega) hnc
    rw [List.length_drop] at this
    simp only [Option.map_some, add_plain, show (Kd.int IntKind.i64).sz = 1 from rfl, Nat.mul_one] at this
    exact this⟩
   have HTK : Aside0 (∀ j u, ((l.take k).map (Value.int .i64))[j]? = some u → wr.cell? (Addr.add ⟨g, 0, none⟩ j) = some u) := ⟨fun j u hu => by
    have hj : j < k := by
     have h1 := (List.getElem?_eq_some_iff.1 hu).1
     simp only [List.length_map, List.length_take] at h1
     omega
    obtain ⟨ad2, e2, hx2⟩ := Kd.at_int HRD.out (j : Int) (by omega) (by omega)
    cases e2
    rw [rd_eq_ l j (by omega), Int.toNat_natCast] at hx2
    rw [hx2, ← hu, List.getElem?_map, List.getElem?_take_of_lt hj, List.getElem?_eq_getElem (by omega)]; rfl⟩
   have HL := Aside0.mk hl
   have HNC := Aside0.mk hnc
   go_wp2
   go_region_held3 (fun _ => True) (trivial) (first | (refine Kd.R_append_rows_step (Kd.int .i64) (Rr := fun (x : Int) (cs : List Value) => cs = [Value.int .i64 x]) wr.heap.size (by rfl) (.tmp 38) (.tmp 41) 55 3 (.int .i64 0) 8 (by rfl) Tryd.underlying55 infoI (by rfl) (by decide) (by omega) (.slice (some ⟨wr.heap.size, 0, none⟩) 1 1) [n] (l.drop k) (if cap = k then some ⟨g, 0, none⟩ else some ⟨g, k, none⟩) (l.length - k) (cap - k) (fun _ => True) (fun _ => False) (by rfl) (by rfl) (Kd.R_drew (Kd.R_of_own (enc := Value.int .i64) (h1 := fun _ => rfl) (own_lit _ _ _ _ [n] (Nat.le_refl _) (by simp)) (fun _ _ => trivial))) (HTL.out.imp_ (below_drew1 (below_alloc (Below.refl _ _) _)) (fun _ _ h => h)) (fun _ _ h => h) (fun _ h => h.elim) (fun _ _ => trivial) (below_drew1 (below_alloc (Below.refl _ _) _)) (by simp) (by first | (simp; done) | (simp; omega)) ?_; intro v1 w1 ho hb hg hat; obtain ⟨ad1, c1, hv1, hcl1⟩ := row_cells ho (by simp); subst hv1; have HCL1 := Aside0.mk hcl1; have HB1 := Aside0.mk hb; clear ho hb hg hat hcl1) | (refine step_append_grows (by rfl) (.tmp 36) (.tmp 42) 55 (by rfl) 3 i0 (.int .i64 0) 1 8 Tryd.underlying55 hi hz0 hz1 hz2 (by rfl) (by omega) (some ⟨g, 0, none⟩) k k ((l.take k).map (Value.int .i64)) (by rfl) (fun h => by cases h) (by first | (simp; done) | (simp; omega)) (fun b hb j u hu => by cases hb; exact pw_cell_below HB1.out (HTK.out j u hu)) ad1 ([n] ++ l.drop k).length c1 (([n] ++ l.drop k).map (Value.int .i64)) (by rfl) (by simp) HCL1.out (by intro u hu; obtain ⟨y, _, rfl⟩ := List.mem_map.1 hu; rfl) (by first | (simp; done) | (simp; omega)) (by first | (simp [maxLen]; done) | (simp [maxLen]; omega)) (by first | (simp; done) | (simp; omega)) ?_; intro v2 w2 ho2 hg2; have HO2 := Aside0.mk ho2; have HG2 := Aside0.mk hg2; clear ho2 hg2))
   go_wp2
   all_goals
    go_ret
    refine ⟨_, rfl, ?_, ?_⟩
    ·
     rw [HP.out]
     have hs1 := below_size HB1.out
     refine Kd.R_lower (base := w1.heap.size) (Kd.R_of_own (enc := Value.int .i64) (h1 := fun _ => rfl) ?_ (fun _ _ => trivial)) (Nat.le_trans HHB.out hs1)
     have h3 := HO2.out
     rw [← List.map_append] at h3
     have h4 : k + ([n] ++ l.drop k).length = (l.take k ++ n :: l.drop k).length := by simp; omega
     rw [h4] at h3
     exact h3
    ·
     exact HB1.out.grown HG2.out (below_size HB1.out) (fun _ h => by cases h)
end Go.Proofs.YtcmdcgghpkcchaaDoor.Put

namespace Go.Proofs.YtcmdcgghpkcchaaDoor.XMast
open Go.RowKit Go.Proofs.YtcmdcgghpkcchaaDoorW.PrintWords Go.Proofs.YtcmdcgghpkcchaaDoorW.PrintLast Go.Proofs.YtcmdcgghpkcchaaDoorW.PrintMore
attribute [local go_sem] max2_int min2_int max_two min_two max_three min_three max_four min_four   -- for this text's walks alone
set_option linter.unusedVariables false
set_option linter.unusedSimpArgs false
/-! ### dropperref01_bounds: function 48 -/
def dropperref01_bounds.all : List S46 → List Int → List Int
 | [], out => out
 | s :: t, out => dropperref01_bounds.all t (Put.putF (Put.putF out s.f0) s.f1)
theorem dropperref01_bounds.put_len (l : List Int) (n : Int) : (Put.putF l n).length ≤ l.length + 1 ∧ l.length ≤ (Put.putF l n).length := by
 unfold Put.putF
 have := Put.idx_le l n
 split
 ·
  omega
 ·
  simp; omega
def dropperref01_bounds.f (l0 l1 : List S46) : Option (List Int) := if l0.length + l1.length ≤ 450 then some (dropperref01_bounds.all (l0 ++ l1) [0, 100000]) else none
theorem dropperref01_bounds.KM {w W : World} {base : Nat} (x : S46) (cs : List Value) (h : k46.K w x cs) : k46.M W base (fun _ => False) x cs := by rw [k46_open h]; exact k46_mkM _ _ _ _
theorem dropperref01_bounds.empty (W : World) (base n : Nat) (hb : base ≤ W.heap.size) (hn : W.heap.size = n) : k46.R 46 (W.alloc (.cells #[] 46)) base (fun _ => True) (.slice (some ⟨n, 0, none⟩) 0 0) [] := by
 subst hn
 exact ⟨fun _ _ => trivial, [], ⟨rfl, .inr ⟨W.heap.size, 0, #[], rfl, hb, heap_alloc_new W _, Nat.le_refl _, by simp [maxLen], rfl, rfl⟩⟩, Reps.none _ _⟩
theorem dropperref01_bounds.rd_get (l : List S46) (x : Int) (h0 : 0 ≤ x) (h1 : x < (l.length : Int)) : l.drop x.toNat = rd_T46 l x :: l.drop (x + 1).toNat := by
 have e : (x + 1).toNat = x.toNat + 1 := by omega
 have h : x.toNat < l.length := by omega
 rw [e, List.drop_eq_getElem_cons h]
 simp [rd_T46, List.getD_eq_getElem?_getD, h]
set_option maxHeartbeats 4000000 in
set_option maxRecDepth 100000 in
theorem dropperref01_bounds.calls (A0 : Option Addr) (c0 : Nat) (l0 : List S46) (A1 : Option Addr) (c1 : Nat) (l1 : List S46) (r : List Int) (w : World) (hr0 : Kd.C k46 w A0 l0.length l0) (hc0 : l0.length ≤ c0) (hr1 : Kd.C k46 w A1 l1.length l1) (hc1 : l1.length ≤ c1) (h : dropperref01_bounds.f l0 l1 = some r) :
  Calls Tryd.prog 48 #[.slice A0 l0.length c0, .slice A1 l1.length c1] w fun e w' => ∃ v0_ : Value, e = .returned (v0_) ∧ Kd.R (Kd.int .i64) 3 w' w.heap.size (fun _ => True) v0_ r ∧ Below w.heap.size w w' := by
 have HR0 := Aside0.mk hr0
 have HR1 := Aside0.mk hr1
 clear hr0 hr1
 unfold dropperref01_bounds.f at h
 by_cases hl : ¬ l0.length + l1.length ≤ 450
 ·
  rw [if_neg hl] at h; cases h
 replace hl := Decidable.not_not.1 hl
 rw [if_pos hl] at h
 have H := Aside0.mk (Option.some.inj h)
 have HL := Aside0.mk hl
 clear h hl
 obtain ⟨L, hL⟩ : ∃ L, L = [] ++ l0 ++ l1 := ⟨_, rfl⟩
 have HH : Aside0 (dropperref01_bounds.all L [0, 100000] = r) := ⟨by rw [hL, List.nil_append]; exact H.out⟩
 have HLL : Aside0 (L.length ≤ 450) := ⟨by rw [hL]; have := HL.out; simp; omega⟩
 have HLq := Aside0.mk hL
 clear hL
 have hs1 : (w.alloc (.cells #[.int .i64 0, .int .i64 100000] 3)).heap.size = w.heap.size + 1 := Array.size_push ..
 have HS1 := Aside0.mk hs1
 have HO0 : Aside0 ((Kd.int .i64).R 3 ((w.alloc (.cells #[.int .i64 0, .int .i64 100000] 3)).alloc (.cells #[] 46)) w.heap.size (fun k => k = w.heap.size) (.slice (some ⟨w.heap.size, 0, none⟩) 2 2) [0, 100000]) := ⟨Kd.R_alloc (Kd.R_of_own (enc := Value.int .i64) (h1 := fun _ => rfl) (own_lit _ _ _ _ [0, 100000] (Nat.le_refl _) (by simp)) (fun k hk => by simp [Value.ownBlock] at hk; exact hk.symm)) _⟩
 have HE0 : Aside0 (k46.R 46 ((w.alloc (.cells #[.int .i64 0, .int .i64 100000] 3)).alloc (.cells #[] 46)) (w.heap.size + 1) (fun _ => True) (.slice (some ⟨w.heap.size + 1, 0, none⟩) 0 0) []) := ⟨dropperref01_bounds.empty _ _ _ (by rw [hs1]; exact Nat.le_refl _) hs1⟩
 have HB0 : Aside0 (Below w.heap.size w ((w.alloc (.cells #[.int .i64 0, .int .i64 100000] 3)).alloc (.cells #[] 46))) := ⟨below_alloc (below_alloc (Below.refl _ _) _) _⟩
 clear hs1
 go_enter Tryd.func48, Tryd.ntmps48
 go_upto_region 2 with (fail)
 go_wp2_with (first | (at_builtin; refine Kd.R_append_rows k46 (Rr := k46.K ((w.alloc (.cells #[.int .i64 0, .int .i64 100000] 3)).alloc (.cells #[] 46))) (w.heap.size + 1) rfl (.tmp 9) (.tmp 10) 22 46 (.agg #[.int .i64 0, .int .i64 0]) 16 rfl Tryd.underlying22 info46 rfl (by decide) (by omega) (.slice (some ⟨w.heap.size + 1, 0, none⟩) 0 0) [] l0 A0 l0.length c0 (fun _ => True) (fun _ => False) rfl rfl HE0.out (Kd.C_below HR0.out HB0.out) (fun x cs hx => dropperref01_bounds.KM x cs hx) (fun _ h => h.elim) (fun _ _ => trivial) (Below.refl _ _) (by have := below_size HB0.out; simp at this ⊢) (by have := HL.out; simp; omega) ?_; intro v1 w1 ho1 hb1 hg1 hat1; have HO1 := Aside0.mk ho1; have HG1 := Aside0.mk hg1; have HOI1 := Aside0.mk (Kd.R_grown HO0.out hg1 (fun k hk e => by simp [Value.ownBlock] at e; omega)); have HB1 := Aside0.mk (HB0.out.grown hg1 (below_size HB0.out) (fun k hk => by simp [Value.ownBlock] at hk; omega)); have HAT1 : Aside0 (∀ k, v1.ownBlock = some k → w.heap.size + 1 ≤ k) := ⟨fun k hk => by obtain ⟨inner, ho_⟩ := Kd.R_own ho1; exact own_base ho_ k hk⟩; clear ho1 hb1 hg1 hat1) | (at_builtin; refine Kd.R_append_rows k46 (Rr := k46.K w1) (w.heap.size + 1) rfl (.tmp 11) (.tmp 12) 22 46 (.agg #[.int .i64 0, .int .i64 0]) 16 rfl Tryd.underlying22 info46 rfl (by decide) (by omega) v1 ([] ++ l0) l1 A1 l1.length c1 (fun _ => True) (fun _ => False) rfl rfl HO1.out (Kd.C_below HR1.out HB1.out) (fun x cs hx => dropperref01_bounds.KM x cs hx) (fun _ h => h.elim) (fun _ _ => trivial) (Below.refl _ _) (by have := HG1.out.size; simp at this; omega) (by have := HL.out; simp; omega) ?_; intro v2 w2 ho2 hb2 hg2 hat2; rw [← HLq.out] at ho2; obtain ⟨AL, cL, e2, hcL, hrd2⟩ := Kd.R_reads ho2; subst e2; have HRL := Aside0.mk hrd2; have HOI2 := Aside0.mk (Kd.R_grown HOI1.out hg2 (fun k hk e => by have := HAT1.out k e.symm; omega)); have HB2 := Aside0.mk (HB1.out.grown hg2 (below_size HB1.out) (fun k hk => by have := HAT1.out k hk; omega)); clear ho2 hb2 hg2 hat2 hrd2 hcL))
 go_loopg [5, 7] L.length (fun kq v5 v7 w' => ∃ (x : Int) (out : List Int), v7 = .int .i64 x ∧ Aside0 (0 ≤ x ∧ x ≤ L.length) ∧ Aside0 (kq = L.length - x.toNat) ∧ Aside0 ((Kd.int .i64).R 3 w' w.heap.size (fun _ => True) v5 out) ∧ Aside0 (dropperref01_bounds.all (L.drop x.toNat) out = r) ∧ Aside0 (0 < out.length ∧ out.length ≤ 2 + 2 * x.toNat) ∧ Aside0 (Below w2.heap.size w2 w'))
 case atStart => exact ⟨0, [0, 100000], rfl, ⟨by omega, by omega⟩, ⟨rfl⟩, ⟨Kd.R_mono HOI2.out (fun _ _ => trivial)⟩, HH, ⟨by simp, by simp⟩, ⟨Below.refl _ _⟩⟩
 case round =>
  obtain ⟨x, out, rfl, HI, HK, HO, HA, HOL, HB⟩ := hrel
  clear HOI2
  by_cases hlt : x < (L.length : Int)
  ·
   have h1 : decide (x < (L.length : Int)) = true := decide_eq_true hlt
   have p1 : 0 ≤ x := HI.out.1
   have HRW := Aside0.mk (Kd.C_below HRL.out HB.out)
   obtain ⟨ad, e1, hx0, hx1⟩ := at_T46 HRW.out x p1 hlt
   cases e1
   have hd := dropperref01_bounds.rd_get L x p1 hlt
   have ha := HA.out
   rw [hd, dropperref01_bounds.all] at ha
   obtain ⟨X, hX⟩ : ∃ X, X = rd_T46 L x := ⟨_, rfl⟩
   rw [← hX] at hx0 hx1 ha
   have HA2 := Aside0.mk ha
   clear hX hd ha HA
   obtain ⟨A5, c5, e5⟩ := Kd.R_slice HO.out
   subst e5
   have hx1000 : x ≤ 450 := by have := HLL.out; omega
   go_wp2_with (fail)
   have F1 : Aside0 (out.length ≤ 1000) := ⟨by have := HOL.out.2; omega⟩
   have F2 : Aside0 (0 < (Put.putF out X.f0).length) := ⟨by have := (dropperref01_bounds.put_len out X.f0).2; have := HOL.out.1; omega⟩
   have F3 : Aside0 ((Put.putF out X.f0).length ≤ 1000) := ⟨by have := (dropperref01_bounds.put_len out X.f0).1; have := HOL.out.2; omega⟩
   have F4 : Aside0 (w.heap.size ≤ wr.heap.size) := ⟨by have := below_size HB2.out; have := below_size HB.out; omega⟩
   have F5 : Aside0 ((Kd.int .i64).R 3 wr.drew w.heap.size (fun _ => True) (.slice A5 out.length c5) out) := ⟨Kd.R_drew HO.out⟩
   have HB5 : Aside0 (Below wr.heap.size wr wr.drew) := ⟨below_drew1 (Below.refl _ _)⟩
   have hy0 : wr.drew.cell? (ad.add (x.toNat * 2)) = some (.int .i64 X.f0) := hx0
   have hy1 : wr.drew.cell? ⟨(ad.add (x.toNat * 2)).block, (ad.add (x.toNat * 2)).off + 1, none⟩ = some (.int .i64 X.f1) := hx1
   have HX0 := Aside0.mk hx0
   have HX1 := Aside0.mk hx1
   replace p1 := eq_true p1
   replace hlt := eq_true hlt
   refine start_ (n := 14) (S := (fun w' => w'.cell? (ad.add (x.toNat * 2)) = some (.int .i64 X.f0) ∧ w'.cell? ⟨(ad.add (x.toNat * 2)).block, (ad.add (x.toNat * 2)).off + 1, none⟩ = some (.int .i64 X.f1))) (ds := []) #[false, false, false, false, false, false, false, false, false, false, false, false, false, false] (by kernel_rfl) rfl rfl ⟨hy0, hy1⟩ (fun hHeld => ?_)
   have F7 : Aside0 (w.heap.size ≤ wr.drew.heap.size) := F4
   clear hx0 hx1
   generalize wr.drew = w21 at F5 F7 HB5 hy0 hy1 hHeld ⊢
   refine pst (i := 0) (N := some 20) (bz 14 1) (by kernel_rfl) ?_
   refine pst (i := 1) (N := some 21) (bz 14 3) (by kernel_rfl) ?_
   refine pst (i := 2) (N := some 22) (bz 14 7) (by kernel_rfl) ?_
   refine pst (i := 3) (N := some 23) (bz 14 15) (by kernel_rfl) ?_
   refine pst (i := 4) (N := some 24) (bz 14 31) (by kernel_rfl) ?_
   refine tst2 (i := 5) (N := some 25) (bz 14 63) (by kernel_rfl) hHeld ?_
   refine pst (i := 7) (N := some 27) (bz 14 191) (by kernel_rfl) ?_
   refine pst (i := 8) (N := some 28) (bz 14 447) (by kernel_rfl) ?_
   refine pst (i := 9) (N := some 29) (bz 14 959) (by kernel_rfl) ?_
   refine pst (i := 10) (N := some 30) (bz 14 1983) (by kernel_rfl) ?_
   refine tst2 (i := 11) (N := some 31) (bz 14 4031) (by kernel_rfl) hHeld ?_
   refine one_ (i := 6) (N := some 26) #[true, true, true, true, true, true, true, true, true, true, true, true, false, false] rfl rfl (by kernel_rfl) (by decide) (fun K hK => ?_)
   refine goes_ Tryd.func75 (by kernel_rfl) rfl #[.slice A5 out.length c5, .int .i64 X.f0] (by rfl) rfl rfl mapz ?_
   with_reducible refine (Put.put (.slice A5 out.length c5) out X.f0 w.heap.size _ F5.out HOL.out.1 F1.out F7.out).mono ?_
   rintro e w3 ⟨v3, rfl, ho3, hb3⟩; have HO3 := Aside0.mk ho3; have HBP := Aside0.mk (below_step HB5.out hb3); have F6 : Aside0 (w.heap.size ≤ w3.heap.size) := ⟨Nat.le_trans F4.out (below_size HBP.out)⟩; clear ho3 hb3
   refine ⟨_, rfl, ?_⟩
   refine hK.out _ _ ⟨pw_cell_below HBP.out HX0.out, pw_cell_below HBP.out HX1.out⟩ (fun hHeld2 => ?_)
   clear hK K
   refine norm_ (a' := ?_) ?_ ?_
   rotate_left
   ·
    show Act.put _ (some 26) _ = _
    simp only [Act.put, List.setIfInBounds_toArray, List.set_cons_zero, List.set_cons_succ, i64_w, i32_w]
    rfl
   refine one_ (i := 12) (N := some 32) #[true, true, true, true, true, true, true, true, true, true, true, true, true, false] rfl rfl (by kernel_rfl) (by decide) (fun K hK => ?_)
   refine goes_ Tryd.func75 (by kernel_rfl) rfl #[v3, .int .i64 X.f1] (by rfl) rfl rfl mapz ?_
   with_reducible refine (Put.put v3 (Put.putF out X.f0) X.f1 w.heap.size _ HO3.out F2.out F3.out F6.out).mono ?_
   rintro e w4 ⟨v4, rfl, ho4, hb4⟩; have HO4 := Aside0.mk ho4; have HBQ := Aside0.mk (below_step HBP.out hb4); clear ho4 hb4
   refine ⟨_, rfl, ?_⟩
   refine hK.out _ _ ⟨pw_cell_below HBQ.out HX0.out, pw_cell_below HBQ.out HX1.out⟩ (fun hHeld3 => ?_)
   clear hK K
   refine norm_ (a' := ?_) ?_ ?_
   rotate_left
   ·
    show Act.put _ (some 32) _ = _
    simp only [Act.put, List.setIfInBounds_toArray, List.set_cons_zero, List.set_cons_succ, i64_w, i32_w]
    rfl
   refine pst (i := 13) (N := some 5) (bz 14 16383) (by kernel_rfl) ?_
   refine done_ (by kernel_rfl) ?_
   clear hHeld hHeld2 hHeld3 hy0 hy1
   have p1' := of_eq_true p1
   have hlt' := of_eq_true hlt
   go_wp2
   go_roundg (L.length - (x + 1).toNat)
   case measure => have := HI.out; have := HK.out; omega
   case rel => exact ⟨x + 1, _, by first | rfl | (rw [show wrap64 (x + 1) = x + 1 by unfold wrap64; omega]), ⟨by omega, by omega⟩, ⟨rfl⟩, HO4, HA2, ⟨by have := (dropperref01_bounds.put_len out X.f0).2; have := (dropperref01_bounds.put_len (Put.putF out X.f0) X.f1).2; have := HOL.out.1; omega, by have := (dropperref01_bounds.put_len out X.f0).1; have := (dropperref01_bounds.put_len (Put.putF out X.f0) X.f1).1; have := HOL.out.2; omega⟩, ⟨below_step HB.out HBQ.out⟩⟩
  ·
   have h1 : decide (x < (L.length : Int)) = false := decide_eq_false hlt
   have ha := HA.out
   rw [List.drop_eq_nil_of_le (by omega), dropperref01_bounds.all] at ha
   subst ha
   go_wp2
   go_ret
   exact ⟨_, rfl, HO.out, below_step HB2.out HB.out⟩

/-! ### dropperref01_depth: function 49 -/
def dropperref01_depth.l0 : Nat → List (S46) → Int → Int → Int → Option (Int)
 | 0, _, _, _, _ => none
 | k + 1, x0, x1, x5, x6 => if x6 < (x0.length : Int) then (if 0 ≤ x6 then (if ((rd_T46 x0 x6).f0) ≤ x1 then (if x1 < ((rd_T46 x0 x6).f1) then (dropperref01_depth.l0 k x0 x1 (wrap64 (x5 + 1)) (wrap64 (x6 + 1))) else (dropperref01_depth.l0 k x0 x1 x5 (wrap64 (x6 + 1)))) else (dropperref01_depth.l0 k x0 x1 x5 (wrap64 (x6 + 1)))) else (none)) else (some x5)
def dropperref01_depth.f (k : Nat) (l0 : List (S46)) (a1 : Int) : Option (Int) := dropperref01_depth.l0 k l0 a1 0 0
set_option maxHeartbeats 8000000 in
set_option maxRecDepth 100000 in
theorem dropperref01_depth.calls (k : Nat) (A0 : Option Addr) (c0 : Nat) (l0 : List (S46)) (a1 : Int) (r : Int) (w : World) (hr0 : Kd.C k46 w A0 l0.length l0) (hc0 : l0.length ≤ c0) (h : dropperref01_depth.f k l0 a1 = some r) :
  Calls Tryd.prog 49 #[.slice A0 l0.length c0, .int .i64 a1] w fun e w' => e = .returned (.int .i64 r) ∧ Drawn0 w w' := by
 have HR0 := Aside0.mk hr0
 have HC0 := Aside0.mk hc0
 clear hr0 hc0
 have H : (dropperref01_depth.l0 k l0 a1 0 0) = some r := h
 clear h
 have H' := Aside0.mk H
 clear H
 go_enter Tryd.func49, Tryd.ntmps49
 go_wp2
 go_loopg [5, 6] k (fun kq v5 v6 w' => ∃ (x5_1 : Int) (x6_1 : Int), v5 = .int .i64 x5_1 ∧ v6 = .int .i64 x6_1 ∧ Aside0 (dropperref01_depth.l0 kq l0 a1 x5_1 x6_1 = some r) ∧ Aside0 (kq ≤ k) ∧ Drawn0 w w')
 case atStart => exact ⟨(0), (0), rsz, rsz, H', ⟨Nat.le_refl _⟩, drz⟩
 case round =>
  clear H'
  try clear p2
  obtain ⟨x5_1, x6_1, rfl, rfl, HA, HK1, ⟨m1, rfl⟩⟩ := hrel
  cases gk with
  | zero => exact absurd HA.out (by simp [dropperref01_depth.l0])
  | succ k1 =>
   have H := HA.out
   clear HA
   simp only [dropperref01_depth.l0] at H
   by_cases c3 : x6_1 < (l0.length : Int)
   ·
    rw [if_pos c3] at H
    have c3b0 : decide (x6_1 < (l0.length : Int)) = true := decide_eq_true c3
    clear c3
    by_cases c4 : 0 ≤ x6_1
    ·
     rw [if_pos c4] at H
     have c4b0 : decide (0 ≤ x6_1) = true := decide_eq_true c4
     clear c4
     by_cases c5 : ((rd_T46 l0 x6_1).f0) ≤ a1
     ·
      rw [if_pos c5] at H
      have c5b0 : decide (((rd_T46 l0 x6_1).f0) ≤ a1) = true := decide_eq_true c5
      clear c5
      by_cases c6 : a1 < ((rd_T46 l0 x6_1).f1)
      ·
       rw [if_pos c6] at H
       have c6b0 : decide (a1 < ((rd_T46 l0 x6_1).f1)) = true := decide_eq_true c6
       clear c6
       have H' := Aside0.mk H
       clear H
       have p152 : 0 ≤ (x6_1 : Int) := of_decide_eq_true asz
       have q152 : x6_1 < (l0.length : Int) := of_decide_eq_true asz
       obtain ⟨ad152, e152, hx152_0, hx152_1⟩ := at_T46 HR0.out x6_1 p152 q152
       cases e152
       replace p152 := eq_true p152
       replace q152 := eq_true q152
       have p153 : 0 ≤ (x6_1 : Int) := of_decide_eq_true asz
       have q153 : x6_1 < (l0.length : Int) := of_decide_eq_true asz
       obtain ⟨ad153, e153, hx153_0, hx153_1⟩ := at_T46 HR0.out x6_1 p153 q153
       obtain rfl : ad152 = ad153 := (by injection e153)
       replace p153 := eq_true p153
       replace q153 := eq_true q153
       go_wp2
       go_roundg k1
       case measure => have := HK1.out; omega
       case rel => exact ⟨(wrap64 (x5_1 + 1)), (wrap64 (x6_1 + 1)), rsz, rsz, H', ⟨by have := HK1.out; omega⟩, drz⟩
      ·
       rw [if_neg c6] at H
       have c6b0 : decide (a1 < ((rd_T46 l0 x6_1).f1)) = false := decide_eq_false c6
       clear c6
       have H' := Aside0.mk H
       clear H
       have p152 : 0 ≤ (x6_1 : Int) := of_decide_eq_true asz
       have q152 : x6_1 < (l0.length : Int) := of_decide_eq_true asz
       obtain ⟨ad152, e152, hx152_0, hx152_1⟩ := at_T46 HR0.out x6_1 p152 q152
       cases e152
       replace p152 := eq_true p152
       replace q152 := eq_true q152
       have p153 : 0 ≤ (x6_1 : Int) := of_decide_eq_true asz
       have q153 : x6_1 < (l0.length : Int) := of_decide_eq_true asz
       obtain ⟨ad153, e153, hx153_0, hx153_1⟩ := at_T46 HR0.out x6_1 p153 q153
       obtain rfl : ad152 = ad153 := (by injection e153)
       replace p153 := eq_true p153
       replace q153 := eq_true q153
       go_wp2
       go_roundg k1
       case measure => have := HK1.out; omega
       case rel => exact ⟨(x5_1), (wrap64 (x6_1 + 1)), rsz, rsz, H', ⟨by have := HK1.out; omega⟩, drz⟩
     ·
      rw [if_neg c5] at H
      have c5b0 : decide (((rd_T46 l0 x6_1).f0) ≤ a1) = false := decide_eq_false c5
      clear c5
      have H' := Aside0.mk H
      clear H
      have p152 : 0 ≤ (x6_1 : Int) := of_decide_eq_true asz
      have q152 : x6_1 < (l0.length : Int) := of_decide_eq_true asz
      obtain ⟨ad152, e152, hx152_0, hx152_1⟩ := at_T46 HR0.out x6_1 p152 q152
      cases e152
      replace p152 := eq_true p152
      replace q152 := eq_true q152
      go_wp2
      go_roundg k1
      case measure => have := HK1.out; omega
      case rel => exact ⟨(x5_1), (wrap64 (x6_1 + 1)), rsz, rsz, H', ⟨by have := HK1.out; omega⟩, drz⟩
    ·
     rw [if_neg c4] at H
     exact absurd H (by simp)
   ·
    rw [if_neg c3] at H
    have c3b0 : decide (x6_1 < (l0.length : Int)) = false := decide_eq_false c3
    clear c3
    obtain rfl := Option.some.inj H
    go_wp2
    go_ret
    exact ⟨by first | rfl | (simp; done) | (simp [*]; done), drz⟩

end Go.Proofs.YtcmdcgghpkcchaaDoor.XMast