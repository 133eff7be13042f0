-- Written by wip/pack.py of this repo: texts of this claim, put together.
import Derived.Test.YtgdfakmlpdeabaaKKeyReachesb
namespace Go.Proofs.Ytgdfakmlpdeabaa.XKey
open Go.RowKit Go.Proofs.YtgdfakmlpdeabaaW.PrintWords Go.Proofs.YtgdfakmlpdeabaaW.PrintLast Go.Proofs.YtgdfakmlpdeabaaW.PrintMore
attribute [local go_sem] max2_int min2_int max_two min_two max_three min_three max_four min_four   -- for this text's walks alone
set_option linter.unusedVariables false
set_option linter.unusedSimpArgs false
/-! ### key_lists: function 54 -/
def key_lists.l0 : Nat → Int → List (List Int) → List (S70) → Int → Int → Option ((List (List Int)))
 | 0, _, _, _, _, _ => none
 | k + 1, x1, x5, x8, x9, x10 => if x10 < x9 then (if 0 ≤ x10 then (if x10 < (x8.length : Int) then ((key_keys_list.f ((rd_T70 x8 x10).f0) ((rd_T70 x8 x10).f1) ((rd_T70 x8 x10).f2) ((rd_T70 x8 x10).f3) ((rd_T70 x8 x10).f4) ((rd_T70 x8 x10).f5) x1).bind fun t103 => (if x5.length < 5864062014805 then (key_lists.l0 k x1 (x5 ++ [t103]) x8 x9 (wrap64 (x10 + 1))) else (none))) else (none)) else (none)) else (some x5)
def key_lists.f (k : Nat) (l0 : List (S70)) (a1 : Int) : Option ((List (List Int))) := key_lists.l0 k a1 ([] : List (List Int)) l0 (l0.length : Int) 0
theorem key_lists.mono_l : ∀ k, (∀ y0 y1 y2 y3 y4, LeO (key_lists.l0 k y0 y1 y2 y3 y4) (key_lists.l0 (k + 1) y0 y1 y2 y3 y4))
 | 0 => fun _ _ _ _ _ r h => by simp [key_lists.l0] at h
 | k + 1 => by
  have ih0 := key_lists.mono_l k
  ·
   intro y0 y1 y2 y3 y4
   unfold key_lists.l0
   repeat' first
   | (with_reducible exact ih0 _ _ _ _ _)
   | (with_reducible exact LeO.refl _)
   | (with_reducible exact LeO.none _)
   | (with_reducible refine LeO.ite ?_ ?_)
   | (with_reducible refine LeO.bind ?_ (fun _ => ?_))
   | exact ih0 _ _ _ _ _
   | exact LeO.none _
   | refine LeO.ite ?_ ?_
   | refine LeO.bind ?_ (fun _ => ?_)
theorem key_lists.mono : ∀ a0 a1 k, LeO (key_lists.f k a0 a1) (key_lists.f (k + 1) a0 a1) := by
 intro a0 a1 k
 have ih0 := key_lists.mono_l k
 unfold key_lists.f
 repeat' first
   | (with_reducible exact ih0 _ _ _ _ _)
   | (with_reducible exact LeO.refl _)
   | (with_reducible exact LeO.none _)
   | (with_reducible refine LeO.ite ?_ ?_)
   | (with_reducible refine LeO.bind ?_ (fun _ => ?_))
   | exact ih0 _ _ _ _ _
   | exact LeO.none _
   | refine LeO.ite ?_ ?_
   | refine LeO.bind ?_ (fun _ => ?_)
set_option maxHeartbeats 8000000 in
set_option maxRecDepth 100000 in
theorem key_lists.calls (k : Nat) (A0 : Option Addr) (c0 : Nat) (l0 : List (S70)) (a1 : Int) (r : List (List Int)) (w : World) (hr0 : Kd.C k70 w A0 l0.length l0) (hc0 : l0.length ≤ c0) (h : key_lists.f k l0 a1 = some r) :
  Calls Try.prog 54 #[.slice A0 l0.length c0, .int .i64 a1] w fun e w' => ∃ v0_ : Value, e = .returned (v0_) ∧ Kd.S (Kd.slice 3 (Kd.int .i64)) 25 w' w.heap.size (fun _ => True) v0_ r ∧ Below w.heap.size w w' := by
 have hu70 := Try.underlying70
 have HR0 := Aside0.mk hr0
 have HC0 := Aside0.mk hc0
 clear hr0 hc0
 have HB := Aside0.mk (Below.refl w.heap.size w)
 have H : (key_lists.l0 k a1 ([] : List (List Int)) l0 (l0.length : Int) 0) = some r := h
 clear h
 have H' := Aside0.mk H
 clear H
 go_enter Try.func54, Try.ntmps54
 go_wp2
 go_loopg [5, 10] k (fun kq v5 v10 w' => ∃ (x5_1 : List (List Int)) (x10_1 : Int), v10 = .int .i64 x10_1 ∧ Aside0 (key_lists.l0 kq a1 x5_1 l0 (l0.length : Int) x10_1 = some r) ∧ Aside0 (kq ≤ k) ∧ Aside0 (Kd.S (Kd.slice 3 (Kd.int .i64)) 25 w' w.heap.size (fun _ => True) v5 x5_1) ∧ Aside0 (Below w.heap.size w w'))
 case atStart => exact ⟨(([] : List (List Int))), (0), rsz, H', ⟨Nat.le_refl _⟩, ⟨by first | exact Kd.S_nil _ _ _ _ _ | exact Kd.N_nil _ _ _ _ _ | exact Kd.V_nil _ _ _ _ _ | exact Kd.Q_nil _ _ _ _ _ | exact Kd.R_nil _ _ _ _ _⟩, ⟨bel⟩⟩
 case round =>
  clear H'
  try clear p2
  obtain ⟨x5_1, x10_1, rfl, HA, HK1, HO_5, HB⟩ := hrel
  cases gk with
  | zero => exact absurd HA.out (by simp [key_lists.l0])
  | succ k1 =>
   have H := HA.out
   clear HA
   simp only [key_lists.l0] at H
   by_cases c3 : x10_1 < (l0.length : Int)
   ·
    rw [if_pos c3] at H
    have c3b0 : decide (x10_1 < (l0.length : Int)) = true := decide_eq_true c3
    clear c3
    by_cases c4 : 0 ≤ x10_1
    ·
     rw [if_pos c4] at H
     have c4b0 : decide (0 ≤ x10_1) = true := decide_eq_true c4
     clear c4
     by_cases c5 : x10_1 < (l0.length : Int)
     ·
      rw [if_pos c5] at H
      have c5b0 : decide (x10_1 < (l0.length : Int)) = true := decide_eq_true c5
      clear c5
      replace H := Option.bind_eq_some_iff.mp H
      obtain ⟨t103, A60, H⟩ := H
      try dsimp only at H
      have A6 := Aside0.mk A60
      clear A60
      by_cases c7 : x5_1.length < 5864062014805
      ·
       rw [if_pos c7] at H
       have LMc7 := Aside0.mk c7
       clear c7
       obtain ⟨y106, hy106⟩ : ∃ y_ : List (List Int), y_ = (x5_1 ++ [t103]) := ⟨_, rfl⟩
       replace H : (key_lists.l0 k1 a1 y106 l0 (l0.length : Int) (wrap64 (x10_1 + 1))) = some r := by first | (rw [hy106]; with_reducible exact H) | (have H2_ := (Option.bind_some _ _).symm.trans H; rw [hy106]; with_reducible exact H2_) | (have H2_ := (Option.bind_some _ _).symm.trans H; with_reducible exact H2_) | with_reducible exact H | (rw [hy106]; exact H) | exact H
       have Ny106 := Aside0.mk hy106
       clear hy106
       have H' := Aside0.mk H
       clear H
       have p101 : 0 ≤ (x10_1 : Int) := of_decide_eq_true asz
       have q101 : x10_1 < (l0.length : Int) := of_decide_eq_true asz
       obtain ⟨ad101, e101, hx101_0, hx101_1, hx101_2, hx101_3, hx101_4, hx101_5⟩ := at_T70 HR0.out x10_1 p101 q101
       cases e101
       replace hx101_0 := (HB.out.cell (World.block_lt_of_cell? w _ hx101_0)).trans hx101_0
       replace hx101_1 := (HB.out.cell (World.block_lt_of_cell? w _ hx101_1)).trans hx101_1
       replace hx101_2 := (HB.out.cell (World.block_lt_of_cell? w _ hx101_2)).trans hx101_2
       replace hx101_3 := (HB.out.cell (World.block_lt_of_cell? w _ hx101_3)).trans hx101_3
       replace hx101_4 := (HB.out.cell (World.block_lt_of_cell? w _ hx101_4)).trans hx101_4
       replace hx101_5 := (HB.out.cell (World.block_lt_of_cell? w _ hx101_5)).trans hx101_5
       replace p101 := eq_true p101
       replace q101 := eq_true q101
       go_wp2_with (first | ((with_reducible refine gate_dst (N := 7) rfl ?_); refine box_event ?hg (N := 7) ?hd (cs := #[.int .i64 0, .int .i64 0, .int .i64 0, .int .i64 0, .int .i64 0, .int .i64 0]) (t := 70) ?hr ?_; (case hd => rfl); (case hg => rfl); (case hr => first | (go_simp; done) | (go_simp; rfl)); intro gb102 hg w8 hbox hb; have BK102 := Aside0.mk (hbox); have GW102 := bsz (w := w) hg; have GE102 := GW102; replace HO_5 := Aside0.mk (Kd.S_below (by (with_reducible repeat (first | apply Kd.S_alloc | apply Kd.S_drewN | apply Kd.S_drew)); exact HO_5.out) hb); replace HB := Aside0.mk (below_step bel hb); clear hb hbox hg; obtain ⟨hcz9_0, hcz9_1, hcz9_2, hcz9_3, hcz9_4, hcz9_5⟩ := bc6 BK102.out; obtain ⟨hfz9_0, hfz9_1, hfz9_2, hfz9_3, hfz9_4, hfz9_5⟩ := bf6 BK102.out) | ((with_reducible refine gate_callee (f := 55) rfl ?_); refine goesL_ (some 17) rfl rfl Try.func55 (by kernel_rfl) rfl #[.agg #[.int .i64 ((rd_T70 l0 x10_1).f0), .int .i64 ((rd_T70 l0 x10_1).f1), .int .i64 ((rd_T70 l0 x10_1).f2), .int .i64 ((rd_T70 l0 x10_1).f3), .int .i64 ((rd_T70 l0 x10_1).f4), .int .i64 ((rd_T70 l0 x10_1).f5)], .int .i64 a1] rfl mapz ?_; (with_reducible refine (key_keys_list.calls ((rd_T70 l0 x10_1).f0) ((rd_T70 l0 x10_1).f1) ((rd_T70 l0 x10_1).f2) ((rd_T70 l0 x10_1).f3) ((rd_T70 l0 x10_1).f4) ((rd_T70 l0 x10_1).f5) a1 t103 _ A6.out).mono ?_); rintro e w10 ⟨v104, rfl, ho0, hb⟩; refine ⟨_, rfl, ?_⟩; have HO105 := Aside0.mk (Kd.R_lower ho0 (below_size bel)); replace HO_5 := Aside0.mk (Kd.S_elder' (by (with_reducible repeat (first | apply Kd.S_alloc | apply Kd.S_drewN | apply Kd.S_drew)); exact (Kd.S_mono (Kd.S_far (p := ⟨gb102, 5, none⟩) (Kd.S_far (p := ⟨gb102, 4, none⟩) (Kd.S_far (p := ⟨gb102, 3, none⟩) (Kd.S_far (p := ⟨gb102, 2, none⟩) (Kd.S_far (p := ⟨gb102, 1, none⟩) (Kd.S_far (p := ⟨gb102, 0, none⟩) (Kd.S_types HO_5.out BK102.out (by decide)) (fun _ hk => hk.2) (.int .i64 ((rd_T70 l0 x10_1).f0))) (fun _ hk => hk.2) (.int .i64 ((rd_T70 l0 x10_1).f1))) (fun _ hk => hk.2) (.int .i64 ((rd_T70 l0 x10_1).f2))) (fun _ hk => hk.2) (.int .i64 ((rd_T70 l0 x10_1).f3))) (fun _ hk => hk.2) (.int .i64 ((rd_T70 l0 x10_1).f4))) (fun _ hk => hk.2) (.int .i64 ((rd_T70 l0 x10_1).f5))) (fun _ h_ => h_.1))) (Kd.R_base ho0) hb); replace BK102 := Aside0.mk (blk_below (g := gb102) (o := .cells #[.int .i64 ((rd_T70 l0 x10_1).f0), .int .i64 ((rd_T70 l0 x10_1).f1), .int .i64 ((rd_T70 l0 x10_1).f2), .int .i64 ((rd_T70 l0 x10_1).f3), .int .i64 ((rd_T70 l0 x10_1).f4), .int .i64 ((rd_T70 l0 x10_1).f5)] 70 (0, 0)) (by (with_reducible repeat (first | refine blk_drewN ?_ _ | refine blk_drew ?_ | refine blk_alloc ?_ _)); refine blk_put (cs := #[.int .i64 ((rd_T70 l0 x10_1).f0), .int .i64 ((rd_T70 l0 x10_1).f1), .int .i64 ((rd_T70 l0 x10_1).f2), .int .i64 ((rd_T70 l0 x10_1).f3), .int .i64 ((rd_T70 l0 x10_1).f4), .int .i64 0]) ?_ 5 _ rfl; (with_reducible repeat (first | refine blk_drewN ?_ _ | refine blk_drew ?_ | refine blk_alloc ?_ _)); refine blk_put (cs := #[.int .i64 ((rd_T70 l0 x10_1).f0), .int .i64 ((rd_T70 l0 x10_1).f1), .int .i64 ((rd_T70 l0 x10_1).f2), .int .i64 ((rd_T70 l0 x10_1).f3), .int .i64 0, .int .i64 0]) ?_ 4 _ rfl; (with_reducible repeat (first | refine blk_drewN ?_ _ | refine blk_drew ?_ | refine blk_alloc ?_ _)); refine blk_put (cs := #[.int .i64 ((rd_T70 l0 x10_1).f0), .int .i64 ((rd_T70 l0 x10_1).f1), .int .i64 ((rd_T70 l0 x10_1).f2), .int .i64 0, .int .i64 0, .int .i64 0]) ?_ 3 _ rfl; (with_reducible repeat (first | refine blk_drewN ?_ _ | refine blk_drew ?_ | refine blk_alloc ?_ _)); refine blk_put (cs := #[.int .i64 ((rd_T70 l0 x10_1).f0), .int .i64 ((rd_T70 l0 x10_1).f1), .int .i64 0, .int .i64 0, .int .i64 0, .int .i64 0]) ?_ 2 _ rfl; (with_reducible repeat (first | refine blk_drewN ?_ _ | refine blk_drew ?_ | refine blk_alloc ?_ _)); refine blk_put (cs := #[.int .i64 ((rd_T70 l0 x10_1).f0), .int .i64 0, .int .i64 0, .int .i64 0, .int .i64 0, .int .i64 0]) ?_ 1 _ rfl; (with_reducible repeat (first | refine blk_drewN ?_ _ | refine blk_drew ?_ | refine blk_alloc ?_ _)); refine blk_put (cs := #[.int .i64 0, .int .i64 0, .int .i64 0, .int .i64 0, .int .i64 0, .int .i64 0]) ?_ 0 _ rfl; (with_reducible repeat (first | refine blk_drewN ?_ _ | refine blk_drew ?_ | refine blk_alloc ?_ _)); exact BK102.out) hb); replace HB := Aside0.mk (below_step bel hb); (try clear hb); (try clear hb2); (try clear hk); (try clear hi); (try clear ho0); obtain ⟨Ao12, co12, eo12⟩ := Kd.R_slice HO105.out; subst eo12) | ((with_reducible refine gate_builtin (b := .append) (xs := #[.tmp 14, .tmp 18]) rfl ?_); at_builtin; refine Kd.S_append (Kd.slice 3 (Kd.int .i64)) (w0 := w) w.heap.size rfl (.tmp 14) (.tmp 18) 31 25 (.slice none 0 0) 24 rfl Try.underlying31 info25 rfl (by decide) (by omega) u5 x5_1 t103 [.slice Ao12 t103.length co12] (fun _ => True) (fun k_ => some k_ = (.slice Ao12 t103.length co12 : Value).ownBlock) rfl rfl ?aP (fun k_ hk_ => ((Kd.R_mono (ok' := fun k_ => ((fun _ => True)) k_ ∧ some k_ ≠ (u5 : Value).ownBlock) (Kd.R_apart' (HO105.out) (Kd.S_typed HO_5.out) (by decide)) (fun k_ hk => ⟨trivial, hk.2⟩))).1 k_ hk_.symm) ?aF ?aO ?aB ?aS ?aL ?_; (case aP => exact Kd.M_row (Kd.R_mono (Kd.R_tight rfl (Kd.R_mono (ok' := fun k_ => ((fun _ => True)) k_ ∧ some k_ ≠ (u5 : Value).ownBlock) (Kd.R_apart' (HO105.out) (Kd.S_typed HO_5.out) (by decide)) (fun k_ hk => ⟨trivial, hk.2⟩))) (fun _ h_ => h_))); (case aB => exact bel); (case aF => exact (fun _ _ => trivial)); (case aO => exact (by (with_reducible repeat (first | apply Kd.S_alloc | apply Kd.S_drewN | apply Kd.S_drew)); exact Kd.S_mono HO_5.out (fun k_ hk => ⟨trivial, fun e_ => hk.2 e_⟩))); (case aS => exact (below_size bel)); (case aL => have := LMc7.out; omega); intro v107 w11 ho hb hg hat; rw [← Ny106.out] at ho; have n0_ := Aside0.mk (blk_grown (g := gb102) (o := .cells #[.int .i64 ((rd_T70 l0 x10_1).f0), .int .i64 ((rd_T70 l0 x10_1).f1), .int .i64 ((rd_T70 l0 x10_1).f2), .int .i64 ((rd_T70 l0 x10_1).f3), .int .i64 ((rd_T70 l0 x10_1).f4), .int .i64 ((rd_T70 l0 x10_1).f5)] 70 (0, 0)) blkz hg (Kd.S_ne HO_5.out BK102.out (by decide))); have n1_ := Aside0.mk (hb); have n2_ := Aside0.mk (ho); clear BK102; clear HB; clear HO_5; clear HO105; have BK102 := n0_; have HB := n1_; have HO108 := n2_; clear n0_ n1_ n2_; clear ho hb hg hat))
       go_roundg k1
       case measure => have := HK1.out; omega
       case rel => exact ⟨(y106), (wrap64 (x10_1 + 1)), rsz, H', ⟨by have := HK1.out; omega⟩, ⟨by (with_reducible repeat (first | apply Kd.S_alloc | apply Kd.S_drewN | apply Kd.S_drew)); exact HO108.out⟩, ⟨bel⟩⟩
      ·
       rw [if_neg c7] at H
       exact absurd H (by simp)
     ·
      rw [if_neg c5] at H
      exact absurd H (by simp)
    ·
     rw [if_neg c4] at H
     exact absurd H (by simp)
   ·
    rw [if_neg c3] at H
    have c3b0 : decide (x10_1 < (l0.length : Int)) = false := decide_eq_false c3
    clear c3
    obtain rfl := Option.some.inj H
    go_wp2
    go_ret
    exact ⟨_, ezz, by (with_reducible repeat (first | apply Kd.S_alloc | apply Kd.S_drewN | apply Kd.S_drew)); exact HO_5.out, bel⟩

/-! ### key_Reach: function 16 -/
def key_Reach.f (k : Nat) (a0_0 : Int) (l0_1 : List (S64)) (l1 : List Int) : Option ((List (List Int)) × Int) := (key_reach.f a0_0 l0_1 l1).bind fun bt110 => ((key_lists.f k bt110.1 a0_0).bind fun t114 => (some (t114, bt110.2)))
theorem key_Reach.mono : ∀ a0 a1 a2 k, LeO (key_Reach.f k a0 a1 a2) (key_Reach.f (k + 1) a0 a1 a2) := by
 intro a0 a1 a2 k
 unfold key_Reach.f
 repeat' first
   | (with_reducible exact key_lists.mono _ _ _)
   | (with_reducible exact LeO.refl _)
   | (with_reducible exact LeO.none _)
   | (with_reducible refine LeO.ite ?_ ?_)
   | (with_reducible refine LeO.bind ?_ (fun _ => ?_))
   | exact key_lists.mono _ _ _
   | exact LeO.none _
   | refine LeO.ite ?_ ?_
   | refine LeO.bind ?_ (fun _ => ?_)
set_option maxHeartbeats 8000000 in
set_option maxRecDepth 100000 in
theorem key_Reach.calls (k : Nat) (a0_0 : Int) (A0_1 : Option Addr) (c0_1 : Nat) (l0_1 : List (S64)) (A1 : Option Addr) (c1 : Nat) (l1 : List Int) (r1 : List (List Int)) (r2 : Int) (w : World) (hr0_1 : Kd.C k64 w A0_1 l0_1.length l0_1) (hc0_1 : l0_1.length ≤ c0_1) (hr1 : Kd.C (Kd.int .i64) w A1 l1.length l1) (hc1 : l1.length ≤ c1) (h : key_Reach.f k a0_0 l0_1 l1 = some (r1, r2)) :
  Calls Try.prog 16 #[.agg #[.int .i64 a0_0, .slice A0_1 l0_1.length c0_1], .slice A1 l1.length c1] w fun e w' => ∃ v0_ : Value, e = .returned (.tuple #[v0_, .int .i64 r2]) ∧ Kd.S (Kd.slice 3 (Kd.int .i64)) 25 w' w.heap.size (fun _ => True) v0_ r1 ∧ Below w.heap.size w w' := by
 have hu24 := Try.underlying24
 have HR0_1 := Aside0.mk hr0_1
 have HC0_1 := Aside0.mk hc0_1
 clear hr0_1 hc0_1
 have HR1 := Aside0.mk hr1
 have HC1 := Aside0.mk hc1
 clear hr1 hc1
 have HB := Aside0.mk (Below.refl w.heap.size w)
 have H : ((key_reach.f a0_0 l0_1 l1).bind fun bt110 => ((key_lists.f k bt110.1 a0_0).bind fun t114 => (some (t114, bt110.2)))) = some (r1, r2) := h
 clear h
 replace H := Option.bind_eq_some_iff.mp H
 obtain ⟨⟨t110, t113⟩, A30, H⟩ := H
 try dsimp only at H
 have A3 := Aside0.mk A30
 clear A30
 replace H := Option.bind_eq_some_iff.mp H
 obtain ⟨t114, A40, H⟩ := H
 try dsimp only at H
 have A4 := Aside0.mk A40
 clear A40
 simp only [Option.some.injEq, Prod.mk.injEq] at H
 obtain ⟨rfl, rfl⟩ := H
 go_enter Try.func16, Try.ntmps16
 go_wp2_with (first | ((with_reducible refine gate_dst (N := 2) rfl ?_); refine box_event ?hg (N := 2) ?hd (cs := #[.int .i64 a0_0, .slice A0_1 l0_1.length c0_1]) (t := 24) ?hr ?_; (case hd => rfl); (case hg => rfl); (case hr => first | (go_simp; done) | (go_simp; rfl)); intro gb109 hg w5 hbox hb; have BK109 := Aside0.mk (hbox); have GW109 := bsz (w := w) hg; have GE109 := GW109; replace HB := Aside0.mk (below_step bel hb); clear hb hbox hg; obtain ⟨hcz6_0, hcz6_1⟩ := bc2 BK109.out) | ((with_reducible refine gate_callee (f := 53) rfl ?_); refine goesL_ (some 11) rfl rfl Try.func53 (by kernel_rfl) rfl #[.agg #[.int .i64 a0_0, .slice A0_1 l0_1.length c0_1], .slice A1 l1.length c1] rfl mapz ?_; (with_reducible refine (key_reach.calls a0_0 _ _ l0_1 _ _ l1 t110 t113 _ (cbz HR0_1) HC0_1.out (cbz HR1) HC1.out A3.out).mono ?_); rintro e w7 ⟨v111, rfl, ho0, hb⟩; refine ⟨_, rfl, ?_⟩; have HO112 := Aside0.mk (Kd.R_lower ho0 (below_size bel)); replace BK109 := Aside0.mk (blk_below (g := gb109) blkz hb); replace HB := Aside0.mk (below_step bel hb); (try clear hb); (try clear hb2); (try clear hk); (try clear hi); (try clear ho0); obtain ⟨hcz8_0, hcz8_1⟩ := bc2 BK109.out; obtain ⟨Ao9, co9, eo9⟩ := Kd.R_slice HO112.out; subst eo9) | ((with_reducible refine gate_callee (f := 54) rfl ?_); refine goesL_ (some 17) rfl rfl Try.func54 (by kernel_rfl) rfl #[.slice Ao9 t110.length co9, .int .i64 a0_0] rfl mapz ?_; (with_reducible refine (key_lists.calls k _ _ t110 a0_0 t114 _ ?side1 ?side2 A4.out).mono ?_); (case side1 => repeat (first | exact (Kd.R_reads' HO112.out).2.2 | (with_reducible refine Kd.C_alloc ?_ _) | (with_reducible refine Kd.C_drewN ?_ _) | (with_reducible refine Kd.C_drew ?_))); (case side2 => exact (Kd.R_reads' HO112.out).2.1); rintro e w10 ⟨v115, rfl, ho0, hb⟩; refine ⟨_, rfl, ?_⟩; have HO116 := Aside0.mk (Kd.S_lower ho0 (below_size bel)); replace HO112 := Aside0.mk (Kd.R_below (ownx HO112) hb); replace BK109 := Aside0.mk (blk_below (g := gb109) blkz hb); replace HB := Aside0.mk (below_step bel hb); (try clear hb); (try clear hb2); (try clear hk); (try clear hi); (try clear ho0)))
 go_ret2
 exact ⟨_, ezz, by (with_reducible repeat (first | apply Kd.S_alloc | apply Kd.S_drewN | apply Kd.S_drew)); exact HO116.out, bel⟩

/-! ### key_can: function 58 -/
def key_can.l0 : Nat → List Int → List (S64) → Int → Int → Int → Int → Int → Int → Int → Int → Option (List Int)
 | 0, _, _, _, _, _, _, _, _, _, _ => none
 | k + 1, x5, x11, x12, x13, x119000, x119001, x119002, x119003, x119004, x119005 => if x13 < x12 then (if 0 ≤ x13 then (if x13 < (x11.length : Int) then ((key_keys_made.f x119000 x119001 x119002 x119003 x119004 x119005 ((rd_T64 x11 x13).f0) ((rd_T64 x11 x13).f1)).bind fun bt121 => (if bt121.2.2.2.2.2.2 = true then (if x5.length < 17592186044416 then (key_can.l0 k (x5 ++ [x13]) x11 x12 (wrap64 (x13 + 1)) x119000 x119001 x119002 x119003 x119004 x119005) else (none)) else (key_can.l0 k x5 x11 x12 (wrap64 (x13 + 1)) x119000 x119001 x119002 x119003 x119004 x119005))) else (none)) else (none)) else (some x5)
def key_can.f (k : Nat) (a0_0 : Int) (l0_1 : List (S64)) (a1_0 : Int) (a1_1 : Int) (a1_2 : Int) (a1_3 : Int) (a1_4 : Int) (a1_5 : Int) : Option (List Int) := key_can.l0 k ([] : List Int) l0_1 (l0_1.length : Int) 0 a1_0 a1_1 a1_2 a1_3 a1_4 a1_5
theorem key_can.mono_l : ∀ k, (∀ y0 y1 y2 y3 y4 y5 y6 y7 y8 y9, LeO (key_can.l0 k y0 y1 y2 y3 y4 y5 y6 y7 y8 y9) (key_can.l0 (k + 1) y0 y1 y2 y3 y4 y5 y6 y7 y8 y9))
 | 0 => fun _ _ _ _ _ _ _ _ _ _ r h => by simp [key_can.l0] at h
 | k + 1 => by
  have ih0 := key_can.mono_l k
  ·
   intro y0 y1 y2 y3 y4 y5 y6 y7 y8 y9
   unfold key_can.l0
   repeat' first
   | (with_reducible exact ih0 _ _ _ _ _ _ _ _ _ _)
   | (with_reducible exact LeO.refl _)
   | (with_reducible exact LeO.none _)
   | (with_reducible refine LeO.ite ?_ ?_)
   | (with_reducible refine LeO.bind ?_ (fun _ => ?_))
   | exact ih0 _ _ _ _ _ _ _ _ _ _
   | exact LeO.none _
   | refine LeO.ite ?_ ?_
   | refine LeO.bind ?_ (fun _ => ?_)
theorem key_can.mono : ∀ a0 a1 a2 a3 a4 a5 a6 a7 k, LeO (key_can.f k a0 a1 a2 a3 a4 a5 a6 a7) (key_can.f (k + 1) a0 a1 a2 a3 a4 a5 a6 a7) := by
 intro a0 a1 a2 a3 a4 a5 a6 a7 k
 have ih0 := key_can.mono_l k
 unfold key_can.f
 repeat' first
   | (with_reducible exact ih0 _ _ _ _ _ _ _ _ _ _)
   | (with_reducible exact LeO.refl _)
   | (with_reducible exact LeO.none _)
   | (with_reducible refine LeO.ite ?_ ?_)
   | (with_reducible refine LeO.bind ?_ (fun _ => ?_))
   | exact ih0 _ _ _ _ _ _ _ _ _ _
   | exact LeO.none _
   | refine LeO.ite ?_ ?_
   | refine LeO.bind ?_ (fun _ => ?_)
set_option maxHeartbeats 8000000 in
set_option maxRecDepth 100000 in
theorem key_can.calls (k : Nat) (a0_0 : Int) (A0_1 : Option Addr) (c0_1 : Nat) (l0_1 : List (S64)) (a1_0 : Int) (a1_1 : Int) (a1_2 : Int) (a1_3 : Int) (a1_4 : Int) (a1_5 : Int) (r : List Int) (w : World) (hr0_1 : Kd.C k64 w A0_1 l0_1.length l0_1) (hc0_1 : l0_1.length ≤ c0_1) (h : key_can.f k a0_0 l0_1 a1_0 a1_1 a1_2 a1_3 a1_4 a1_5 = some r) :
  Calls Try.prog 58 #[.agg #[.int .i64 a0_0, .slice A0_1 l0_1.length c0_1], .agg #[.int .i64 a1_0, .int .i64 a1_1, .int .i64 a1_2, .int .i64 a1_3, .int .i64 a1_4, .int .i64 a1_5]] w fun e w' => ∃ v0_ : Value, e = .returned (v0_) ∧ Kd.R (Kd.int .i64) 3 w' w.heap.size (fun _ => True) v0_ r ∧ Below w.heap.size w w' := by
 have hu24 := Try.underlying24
 have hu70 := Try.underlying70
 have hu64 := Try.underlying64
 have HR0_1 := Aside0.mk hr0_1
 have HC0_1 := Aside0.mk hc0_1
 clear hr0_1 hc0_1
 have HB := Aside0.mk (Below.refl w.heap.size w)
 have H : (key_can.l0 k ([] : List Int) l0_1 (l0_1.length : Int) 0 a1_0 a1_1 a1_2 a1_3 a1_4 a1_5) = some r := h
 clear h
 have H' := Aside0.mk H
 clear H
 go_enter Try.func58, Try.ntmps58
 go_wp2_with (first | ((with_reducible refine gate_dst (N := 2) rfl ?_); refine box_event ?hg (N := 2) ?hd (cs := #[.int .i64 a0_0, .slice A0_1 l0_1.length c0_1]) (t := 24) ?hr ?_; (case hd => rfl); (case hg => rfl); (case hr => first | (go_simp; done) | (go_simp; rfl)); intro gb117 hg w3 hbox hb; have BK117 := Aside0.mk (hbox); have GW117 := bsz (w := w) hg; have GE117 := GW117; replace HB := Aside0.mk (below_step bel hb); clear hb hbox hg) | ((with_reducible refine gate_dst (N := 3) rfl ?_); refine box_event ?hg (N := 3) ?hd (cs := #[.int .i64 a1_0, .int .i64 a1_1, .int .i64 a1_2, .int .i64 a1_3, .int .i64 a1_4, .int .i64 a1_5]) (t := 70) ?hr ?_; (case hd => rfl); (case hg => rfl); (case hr => first | (go_simp; done) | (go_simp; rfl)); intro gb118 hg w4 hbox hb; have BK118 := Aside0.mk (hbox); have GW118 := bsz (w := w) hg; have GE118 := GW118; have NB117_118 := neL (g := gb117) hg; have NB118_117 := neR (g := gb117) hg; replace BK117 := Aside0.mk (blk_below (g := gb117) blkz hb); replace HB := Aside0.mk (below_step bel hb); clear hb hbox hg; have hnb5 := NB117_118.out; have hnc5 := NB118_117.out; obtain ⟨hcz6_0, hcz6_1⟩ := bc2 BK117.out))
 go_loopg [5, 13] k (fun kq v5 v13 w' => ∃ (x5_1 : List Int) (x13_1 : Int), v13 = .int .i64 x13_1 ∧ Aside0 (key_can.l0 kq x5_1 l0_1 (l0_1.length : Int) x13_1 a1_0 a1_1 a1_2 a1_3 a1_4 a1_5 = some r) ∧ Aside0 (kq ≤ k) ∧ Aside0 (Kd.R (Kd.int .i64) 3 w' w.heap.size (fun _ => True) v5 x5_1) ∧ Aside0 (w'.heap[gb117]? = some (.cells #[.int .i64 a0_0, (.slice A0_1 l0_1.length c0_1)] 24 (0, 0))) ∧ Aside0 (w'.heap[gb118]? = some (.cells #[.int .i64 a1_0, .int .i64 a1_1, .int .i64 a1_2, .int .i64 a1_3, .int .i64 a1_4, .int .i64 a1_5] 70 (0, 0))) ∧ Aside0 (Below w.heap.size w w'))
 case atStart => exact ⟨(([] : List Int)), (0), rsz, H', ⟨Nat.le_refl _⟩, ⟨by first | exact Kd.R_nil _ _ _ _ _ | exact Kd.N_nil _ _ _ _ _ | exact Kd.V_nil _ _ _ _ _ | exact Kd.Q_nil _ _ _ _ _ | exact Kd.S_nil _ _ _ _ _⟩, ⟨blkz⟩, ⟨blkz⟩, ⟨bel⟩⟩
 case round =>
  clear H'
  (try clear p2); (try clear c5); (try clear hcz6_0); (try clear hcz6_1); (try clear hfz6_0); (try clear hfz6_1)
  obtain ⟨x5_1, x13_1, rfl, HA, HK1, HO_5, BK117, BK118, HB⟩ := hrel
  cases gk with
  | zero => exact absurd HA.out (by simp [key_can.l0])
  | succ k1 =>
   have H := HA.out
   clear HA
   simp only [key_can.l0] at H
   by_cases c7 : x13_1 < (l0_1.length : Int)
   ·
    rw [if_pos c7] at H
    have c7b0 : decide (x13_1 < (l0_1.length : Int)) = true := decide_eq_true c7
    clear c7
    by_cases c8 : 0 ≤ x13_1
    ·
     rw [if_pos c8] at H
     have c8b0 : decide (0 ≤ x13_1) = true := decide_eq_true c8
     clear c8
     by_cases c9 : x13_1 < (l0_1.length : Int)
     ·
      rw [if_pos c9] at H
      have c9b0 : decide (x13_1 < (l0_1.length : Int)) = true := decide_eq_true c9
      clear c9
      replace H := Option.bind_eq_some_iff.mp H
      obtain ⟨⟨t121, t122, t123, t124, t125, t126, t127⟩, A100, H⟩ := H
      try dsimp only at H
      have A10 := Aside0.mk A100
      clear A100
      by_cases c11 : t127 = true
      ·
       subst c11
       rw [if_pos rfl] at H
       by_cases c12 : x5_1.length < 17592186044416
       ·
        rw [if_pos c12] at H
        have LMc12 := Aside0.mk c12
        clear c12
        obtain ⟨y129, hy129⟩ : ∃ y_ : List Int, y_ = (x5_1 ++ [x13_1]) := ⟨_, rfl⟩
        replace H : (key_can.l0 k1 y129 l0_1 (l0_1.length : Int) (wrap64 (x13_1 + 1)) a1_0 a1_1 a1_2 a1_3 a1_4 a1_5) = some r := by first | (rw [hy129]; with_reducible exact H) | (have H2_ := (Option.bind_some _ _).symm.trans H; rw [hy129]; with_reducible exact H2_) | (have H2_ := (Option.bind_some _ _).symm.trans H; with_reducible exact H2_) | with_reducible exact H | (rw [hy129]; exact H) | exact H
        have Ny129 := Aside0.mk hy129
        clear hy129
        have H' := Aside0.mk H
        clear H
        have p119 : 0 ≤ (x13_1 : Int) := of_decide_eq_true asz
        have q119 : x13_1 < (l0_1.length : Int) := of_decide_eq_true asz
        obtain ⟨ad119, A119_0, c119_0, A119_1, c119_1, e119, hx119_0, hx119_1, hl119_0, hi119_0, hl119_1, hi119_1⟩ := at_T64 HR0_1.out x13_1 p119 q119
        cases e119
        replace hx119_0 := (HB.out.cell (World.block_lt_of_cell? w _ hx119_0)).trans hx119_0
        replace hx119_1 := (HB.out.cell (World.block_lt_of_cell? w _ hx119_1)).trans hx119_1
        have HR119_0 := Aside0.mk hi119_0
        have HC119_0 := Aside0.mk hl119_0
        clear hi119_0 hl119_0
        have HR119_1 := Aside0.mk hi119_1
        have HC119_1 := Aside0.mk hl119_1
        clear hi119_1 hl119_1
        replace p119 := eq_true p119
        replace q119 := eq_true q119
        go_wp2_with (first | ((with_reducible refine gate_dst (N := 7) rfl ?_); refine box_event ?hg (N := 7) ?hd (cs := #[.slice none 0 0, .slice none 0 0]) (t := 64) ?hr ?_; (case hd => rfl); (case hg => rfl); (case hr => first | (go_simp; done) | (go_simp; rfl)); intro gb120 hg w13 hbox hb; have BK120 := Aside0.mk (hbox); have GW120 := bsz (w := w) hg; have GE120 := GW120; have NB117_120 := neL (g := gb117) hg; have NB120_117 := neR (g := gb117) hg; have NB118_120 := neL (g := gb118) hg; have NB120_118 := neR (g := gb118) hg; replace HO_5 := Aside0.mk (Kd.R_below (ownx HO_5) hb); replace BK117 := Aside0.mk (blk_below (g := gb117) blkz hb); replace BK118 := Aside0.mk (blk_below (g := gb118) blkz hb); replace HB := Aside0.mk (below_step bel hb); clear hb hbox hg; have hnb14 := NB120_117.out; have hnc14 := NB117_120.out; have hnb15 := NB120_118.out; have hnc15 := NB118_120.out; obtain ⟨hcz16_0, hcz16_1⟩ := bc2 BK120.out; obtain ⟨hfz16_0, hfz16_1⟩ := bf2 BK120.out; have hnb17 := NB118_117.out; have hnc17 := NB117_118.out; obtain ⟨hcz18_0, hcz18_1, hcz18_2, hcz18_3, hcz18_4, hcz18_5⟩ := bc6 BK118.out) | ((with_reducible refine gate_callee (f := 70) rfl ?_); refine goesL_ (some 21) rfl rfl Try.func70 (by kernel_rfl) rfl #[.agg #[.int .i64 a1_0, .int .i64 a1_1, .int .i64 a1_2, .int .i64 a1_3, .int .i64 a1_4, .int .i64 a1_5], .agg #[.slice A119_0 ((rd_T64 l0_1 x13_1).f0).length c119_0, .slice A119_1 ((rd_T64 l0_1 x13_1).f1).length c119_1]] rfl mapz ?_; (with_reducible refine (key_keys_made.calls a1_0 a1_1 a1_2 a1_3 a1_4 a1_5 _ _ ((rd_T64 l0_1 x13_1).f0) _ _ ((rd_T64 l0_1 x13_1).f1) t121 t122 t123 t124 t125 t126 true _ (cbz HR119_0) HC119_0.out (cbz HR119_1) HC119_1.out A10.out).mono ?_); rintro e w19 ⟨rfl, hb⟩; refine ⟨_, rfl, ?_⟩; replace HO_5 := Aside0.mk (Kd.R_below (by (with_reducible repeat (first | apply Kd.R_alloc | apply Kd.R_drewN | apply Kd.R_drew)); exact (Kd.R_mono (Kd.R_far (p := ⟨gb120, 1, none⟩) (Kd.R_far (p := ⟨gb120, 0, none⟩) (Kd.R_types HO_5.out BK120.out (by decide)) (fun _ hk => hk.2) (.slice A119_0 ((rd_T64 l0_1 x13_1).f0).length c119_0)) (fun _ hk => hk.2) (.slice A119_1 ((rd_T64 l0_1 x13_1).f1).length c119_1)) (fun _ h_ => h_.1))) hb); replace BK117 := Aside0.mk (blk_below (g := gb117) (o := .cells #[.int .i64 a0_0, .slice (some ad119) l0_1.length c0_1] 24 (0, 0)) (by (with_reducible repeat (first | refine blk_drewN ?_ _ | refine blk_drew ?_ | refine blk_alloc ?_ _)); refine blk_far ?_ NB117_120.out _; (with_reducible repeat (first | refine blk_drewN ?_ _ | refine blk_drew ?_ | refine blk_alloc ?_ _)); refine blk_far ?_ NB117_120.out _; (with_reducible repeat (first | refine blk_drewN ?_ _ | refine blk_drew ?_ | refine blk_alloc ?_ _)); exact BK117.out) hb); replace BK118 := Aside0.mk (blk_below (g := gb118) (o := .cells #[.int .i64 a1_0, .int .i64 a1_1, .int .i64 a1_2, .int .i64 a1_3, .int .i64 a1_4, .int .i64 a1_5] 70 (0, 0)) (by (with_reducible repeat (first | refine blk_drewN ?_ _ | refine blk_drew ?_ | refine blk_alloc ?_ _)); refine blk_far ?_ NB118_120.out _; (with_reducible repeat (first | refine blk_drewN ?_ _ | refine blk_drew ?_ | refine blk_alloc ?_ _)); refine blk_far ?_ NB118_120.out _; (with_reducible repeat (first | refine blk_drewN ?_ _ | refine blk_drew ?_ | refine blk_alloc ?_ _)); exact BK118.out) hb); replace BK120 := Aside0.mk (blk_below (g := gb120) (o := .cells #[.slice A119_0 ((rd_T64 l0_1 x13_1).f0).length c119_0, .slice A119_1 ((rd_T64 l0_1 x13_1).f1).length c119_1] 64 (0, 0)) (by (with_reducible repeat (first | refine blk_drewN ?_ _ | refine blk_drew ?_ | refine blk_alloc ?_ _)); refine blk_put (cs := #[.slice A119_0 ((rd_T64 l0_1 x13_1).f0).length c119_0, .slice none 0 0]) ?_ 1 _ rfl; (with_reducible repeat (first | refine blk_drewN ?_ _ | refine blk_drew ?_ | refine blk_alloc ?_ _)); refine blk_put (cs := #[.slice none 0 0, .slice none 0 0]) ?_ 0 _ rfl; (with_reducible repeat (first | refine blk_drewN ?_ _ | refine blk_drew ?_ | refine blk_alloc ?_ _)); exact BK120.out) hb); replace HB := Aside0.mk (below_step bel hb); (try clear hb); (try clear hb2); (try clear hk); (try clear hi)) | ((with_reducible refine gate_dst (N := 8) rfl ?_); refine box_event ?hg (N := 8) ?hd (cs := #[.int .i64 0, .int .i64 0, .int .i64 0, .int .i64 0, .int .i64 0, .int .i64 0]) (t := 70) ?hr ?_; (case hd => rfl); (case hg => rfl); (case hr => first | (go_simp; done) | (go_simp; rfl)); intro gb128 hg w20 hbox hb; have BK128 := Aside0.mk (hbox); have GW128 := bsz (w := w) hg; have GE128 := GW128; have NB117_128 := neL (g := gb117) hg; have NB128_117 := neR (g := gb117) hg; have NB118_128 := neL (g := gb118) hg; have NB128_118 := neR (g := gb118) hg; have NB120_128 := neL (g := gb120) hg; have NB128_120 := neR (g := gb120) hg; replace HO_5 := Aside0.mk (Kd.R_below (ownx HO_5) hb); replace BK117 := Aside0.mk (blk_below (g := gb117) blkz hb); replace BK118 := Aside0.mk (blk_below (g := gb118) blkz hb); replace BK120 := Aside0.mk (blk_below (g := gb120) blkz hb); replace HB := Aside0.mk (below_step bel hb); clear hb hbox hg; have hnb21 := NB128_117.out; have hnc21 := NB117_128.out; have hnb22 := NB128_118.out; have hnc22 := NB118_128.out; have hnb23 := NB128_120.out; have hnc23 := NB120_128.out; obtain ⟨hcz24_0, hcz24_1, hcz24_2, hcz24_3, hcz24_4, hcz24_5⟩ := bc6 BK128.out; obtain ⟨hfz24_0, hfz24_1, hfz24_2, hfz24_3, hfz24_4, hfz24_5⟩ := bf6 BK128.out) | ((with_reducible refine gate_builtin (b := .append) (xs := #[.tmp 25, .tmp 27]) rfl ?_); at_builtin; refine Kd.R_append (Kd.int .i64) (w0 := w) w.heap.size rfl (.tmp 25) (.tmp 27) 25 3 (.int .i64 0) 8 rfl Try.underlying25 info3 rfl (by decide) (by omega) u5 x5_1 x13_1 [.int .i64 x13_1] (fun _ => True) (fun _ => False) rfl (by first | (go_simp; done) | (go_simp; rfl)) ?aP (fun _ hk => hk.elim) ?aF ?aO ?aB ?aS ?aL ?_; (case aP => exact rfl); (case aB => exact bel); (case aF => exact (fun _ _ => trivial)); (case aO => exact (by (with_reducible repeat (first | apply Kd.R_alloc | apply Kd.R_drewN | apply Kd.R_drew)); exact Kd.R_mono (Kd.R_far (p := ⟨gb128, 5, none⟩) (Kd.R_far (p := ⟨gb128, 4, none⟩) (Kd.R_far (p := ⟨gb128, 3, none⟩) (Kd.R_far (p := ⟨gb128, 2, none⟩) (Kd.R_far (p := ⟨gb128, 1, none⟩) (Kd.R_far (p := ⟨gb128, 0, none⟩) (Kd.R_types HO_5.out BK128.out (by decide)) (fun _ hk => hk.2) (.int .i64 t121)) (fun _ hk => hk.2) (.int .i64 t122)) (fun _ hk => hk.2) (.int .i64 t123)) (fun _ hk => hk.2) (.int .i64 t124)) (fun _ hk => hk.2) (.int .i64 t125)) (fun _ hk => hk.2) (.int .i64 t126)) (fun _ hk => trivial))); (case aS => exact (below_size bel)); (case aL => have := LMc12.out; omega); intro v130 w25 ho hb hg hat; rw [← Ny129.out] at ho; have n0_ := Aside0.mk (blk_grown (g := gb117) (o := .cells #[.int .i64 a0_0, .slice (some ad119) l0_1.length c0_1] 24 (0, 0)) (by (with_reducible repeat (first | refine blk_drewN ?_ _ | refine blk_drew ?_ | refine blk_alloc ?_ _)); refine blk_far ?_ NB117_128.out _; (with_reducible repeat (first | refine blk_drewN ?_ _ | refine blk_drew ?_ | refine blk_alloc ?_ _)); refine blk_far ?_ NB117_128.out _; (with_reducible repeat (first | refine blk_drewN ?_ _ | refine blk_drew ?_ | refine blk_alloc ?_ _)); refine blk_far ?_ NB117_128.out _; (with_reducible repeat (first | refine blk_drewN ?_ _ | refine blk_drew ?_ | refine blk_alloc ?_ _)); refine blk_far ?_ NB117_128.out _; (with_reducible repeat (first | refine blk_drewN ?_ _ | refine blk_drew ?_ | refine blk_alloc ?_ _)); refine blk_far ?_ NB117_128.out _; (with_reducible repeat (first | refine blk_drewN ?_ _ | refine blk_drew ?_ | refine blk_alloc ?_ _)); refine blk_far ?_ NB117_128.out _; (with_reducible repeat (first | refine blk_drewN ?_ _ | refine blk_drew ?_ | refine blk_alloc ?_ _)); exact BK117.out) hg (Kd.R_ne HO_5.out BK117.out (by decide))); have n1_ := Aside0.mk (blk_grown (g := gb118) (o := .cells #[.int .i64 a1_0, .int .i64 a1_1, .int .i64 a1_2, .int .i64 a1_3, .int .i64 a1_4, .int .i64 a1_5] 70 (0, 0)) (by (with_reducible repeat (first | refine blk_drewN ?_ _ | refine blk_drew ?_ | refine blk_alloc ?_ _)); refine blk_far ?_ NB118_128.out _; (with_reducible repeat (first | refine blk_drewN ?_ _ | refine blk_drew ?_ | refine blk_alloc ?_ _)); refine blk_far ?_ NB118_128.out _; (with_reducible repeat (first | refine blk_drewN ?_ _ | refine blk_drew ?_ | refine blk_alloc ?_ _)); refine blk_far ?_ NB118_128.out _; (with_reducible repeat (first | refine blk_drewN ?_ _ | refine blk_drew ?_ | refine blk_alloc ?_ _)); refine blk_far ?_ NB118_128.out _; (with_reducible repeat (first | refine blk_drewN ?_ _ | refine blk_drew ?_ | refine blk_alloc ?_ _)); refine blk_far ?_ NB118_128.out _; (with_reducible repeat (first | refine blk_drewN ?_ _ | refine blk_drew ?_ | refine blk_alloc ?_ _)); refine blk_far ?_ NB118_128.out _; (with_reducible repeat (first | refine blk_drewN ?_ _ | refine blk_drew ?_ | refine blk_alloc ?_ _)); exact BK118.out) hg (Kd.R_ne HO_5.out BK118.out (by decide))); have n2_ := Aside0.mk (blk_grown (g := gb120) (o := .cells #[.slice A119_0 ((rd_T64 l0_1 x13_1).f0).length c119_0, .slice A119_1 ((rd_T64 l0_1 x13_1).f1).length c119_1] 64 (0, 0)) (by (with_reducible repeat (first | refine blk_drewN ?_ _ | refine blk_drew ?_ | refine blk_alloc ?_ _)); refine blk_far ?_ NB120_128.out _; (with_reducible repeat (first | refine blk_drewN ?_ _ | refine blk_drew ?_ | refine blk_alloc ?_ _)); refine blk_far ?_ NB120_128.out _; (with_reducible repeat (first | refine blk_drewN ?_ _ | refine blk_drew ?_ | refine blk_alloc ?_ _)); refine blk_far ?_ NB120_128.out _; (with_reducible repeat (first | refine blk_drewN ?_ _ | refine blk_drew ?_ | refine blk_alloc ?_ _)); refine blk_far ?_ NB120_128.out _; (with_reducible repeat (first | refine blk_drewN ?_ _ | refine blk_drew ?_ | refine blk_alloc ?_ _)); refine blk_far ?_ NB120_128.out _; (with_reducible repeat (first | refine blk_drewN ?_ _ | refine blk_drew ?_ | refine blk_alloc ?_ _)); refine blk_far ?_ NB120_128.out _; (with_reducible repeat (first | refine blk_drewN ?_ _ | refine blk_drew ?_ | refine blk_alloc ?_ _)); exact BK120.out) hg (Kd.R_ne HO_5.out BK120.out (by decide))); have n3_ := Aside0.mk (blk_grown (g := gb128) (o := .cells #[.int .i64 t121, .int .i64 t122, .int .i64 t123, .int .i64 t124, .int .i64 t125, .int .i64 t126] 70 (0, 0)) (by (with_reducible repeat (first | refine blk_drewN ?_ _ | refine blk_drew ?_ | refine blk_alloc ?_ _)); refine blk_put (cs := #[.int .i64 t121, .int .i64 t122, .int .i64 t123, .int .i64 t124, .int .i64 t125, .int .i64 0]) ?_ 5 _ rfl; (with_reducible repeat (first | refine blk_drewN ?_ _ | refine blk_drew ?_ | refine blk_alloc ?_ _)); refine blk_put (cs := #[.int .i64 t121, .int .i64 t122, .int .i64 t123, .int .i64 t124, .int .i64 0, .int .i64 0]) ?_ 4 _ rfl; (with_reducible repeat (first | refine blk_drewN ?_ _ | refine blk_drew ?_ | refine blk_alloc ?_ _)); refine blk_put (cs := #[.int .i64 t121, .int .i64 t122, .int .i64 t123, .int .i64 0, .int .i64 0, .int .i64 0]) ?_ 3 _ rfl; (with_reducible repeat (first | refine blk_drewN ?_ _ | refine blk_drew ?_ | refine blk_alloc ?_ _)); refine blk_put (cs := #[.int .i64 t121, .int .i64 t122, .int .i64 0, .int .i64 0, .int .i64 0, .int .i64 0]) ?_ 2 _ rfl; (with_reducible repeat (first | refine blk_drewN ?_ _ | refine blk_drew ?_ | refine blk_alloc ?_ _)); refine blk_put (cs := #[.int .i64 t121, .int .i64 0, .int .i64 0, .int .i64 0, .int .i64 0, .int .i64 0]) ?_ 1 _ rfl; (with_reducible repeat (first | refine blk_drewN ?_ _ | refine blk_drew ?_ | refine blk_alloc ?_ _)); refine blk_put (cs := #[.int .i64 0, .int .i64 0, .int .i64 0, .int .i64 0, .int .i64 0, .int .i64 0]) ?_ 0 _ rfl; (with_reducible repeat (first | refine blk_drewN ?_ _ | refine blk_drew ?_ | refine blk_alloc ?_ _)); exact BK128.out) hg (Kd.R_ne HO_5.out BK128.out (by decide))); have n4_ := Aside0.mk (hb); have n5_ := Aside0.mk (ho); clear BK117; clear BK118; clear BK120; clear BK128; clear HB; clear HO_5; have BK117 := n0_; have BK118 := n1_; have BK120 := n2_; have BK128 := n3_; have HB := n4_; have HO131 := n5_; clear n0_ n1_ n2_ n3_ n4_ n5_; clear ho hb hg hat))
        go_roundg k1
        case measure => have := HK1.out; omega
        case rel => exact ⟨(y129), (wrap64 (x13_1 + 1)), rsz, H', ⟨by have := HK1.out; omega⟩, ⟨by (with_reducible repeat (first | apply Kd.R_alloc | apply Kd.R_drewN | apply Kd.R_drew)); exact HO131.out⟩, ⟨blkz⟩, ⟨blkz⟩, ⟨bel⟩⟩
       ·
        rw [if_neg c12] at H
        exact absurd H (by simp)
      ·
       replace c11 := Bool.eq_false_iff.mpr c11
       subst c11
       rw [if_neg (show ¬ (false = true) by decide)] at H
       have H' := Aside0.mk H
       clear H
       have p119 : 0 ≤ (x13_1 : Int) := of_decide_eq_true asz
       have q119 : x13_1 < (l0_1.length : Int) := of_decide_eq_true asz
       obtain ⟨ad119, A119_0, c119_0, A119_1, c119_1, e119, hx119_0, hx119_1, hl119_0, hi119_0, hl119_1, hi119_1⟩ := at_T64 HR0_1.out x13_1 p119 q119
       cases e119
       replace hx119_0 := (HB.out.cell (World.block_lt_of_cell? w _ hx119_0)).trans hx119_0
       replace hx119_1 := (HB.out.cell (World.block_lt_of_cell? w _ hx119_1)).trans hx119_1
       have HR119_0 := Aside0.mk hi119_0
       have HC119_0 := Aside0.mk hl119_0
       clear hi119_0 hl119_0
       have HR119_1 := Aside0.mk hi119_1
       have HC119_1 := Aside0.mk hl119_1
       clear hi119_1 hl119_1
       replace p119 := eq_true p119
       replace q119 := eq_true q119
       go_wp2_with (first | ((with_reducible refine gate_dst (N := 7) rfl ?_); refine box_event ?hg (N := 7) ?hd (cs := #[.slice none 0 0, .slice none 0 0]) (t := 64) ?hr ?_; (case hd => rfl); (case hg => rfl); (case hr => first | (go_simp; done) | (go_simp; rfl)); intro gb120 hg w26 hbox hb; have BK120 := Aside0.mk (hbox); have GW120 := bsz (w := w) hg; have GE120 := GW120; have NB117_120 := neL (g := gb117) hg; have NB120_117 := neR (g := gb117) hg; have NB118_120 := neL (g := gb118) hg; have NB120_118 := neR (g := gb118) hg; replace HO_5 := Aside0.mk (Kd.R_below (ownx HO_5) hb); replace BK117 := Aside0.mk (blk_below (g := gb117) blkz hb); replace BK118 := Aside0.mk (blk_below (g := gb118) blkz hb); replace HB := Aside0.mk (below_step bel hb); clear hb hbox hg; have hnb27 := NB120_117.out; have hnc27 := NB117_120.out; have hnb28 := NB120_118.out; have hnc28 := NB118_120.out; obtain ⟨hcz29_0, hcz29_1⟩ := bc2 BK120.out; obtain ⟨hfz29_0, hfz29_1⟩ := bf2 BK120.out; have hnb30 := NB118_117.out; have hnc30 := NB117_118.out; obtain ⟨hcz31_0, hcz31_1, hcz31_2, hcz31_3, hcz31_4, hcz31_5⟩ := bc6 BK118.out) | ((with_reducible refine gate_callee (f := 70) rfl ?_); refine goesL_ (some 21) rfl rfl Try.func70 (by kernel_rfl) rfl #[.agg #[.int .i64 a1_0, .int .i64 a1_1, .int .i64 a1_2, .int .i64 a1_3, .int .i64 a1_4, .int .i64 a1_5], .agg #[.slice A119_0 ((rd_T64 l0_1 x13_1).f0).length c119_0, .slice A119_1 ((rd_T64 l0_1 x13_1).f1).length c119_1]] rfl mapz ?_; (with_reducible refine (key_keys_made.calls a1_0 a1_1 a1_2 a1_3 a1_4 a1_5 _ _ ((rd_T64 l0_1 x13_1).f0) _ _ ((rd_T64 l0_1 x13_1).f1) t121 t122 t123 t124 t125 t126 false _ (cbz HR119_0) HC119_0.out (cbz HR119_1) HC119_1.out A10.out).mono ?_); rintro e w32 ⟨rfl, hb⟩; refine ⟨_, rfl, ?_⟩; replace HO_5 := Aside0.mk (Kd.R_below (by (with_reducible repeat (first | apply Kd.R_alloc | apply Kd.R_drewN | apply Kd.R_drew)); exact (Kd.R_mono (Kd.R_far (p := ⟨gb120, 1, none⟩) (Kd.R_far (p := ⟨gb120, 0, none⟩) (Kd.R_types HO_5.out BK120.out (by decide)) (fun _ hk => hk.2) (.slice A119_0 ((rd_T64 l0_1 x13_1).f0).length c119_0)) (fun _ hk => hk.2) (.slice A119_1 ((rd_T64 l0_1 x13_1).f1).length c119_1)) (fun _ h_ => h_.1))) hb); replace BK117 := Aside0.mk (blk_below (g := gb117) (o := .cells #[.int .i64 a0_0, .slice (some ad119) l0_1.length c0_1] 24 (0, 0)) (by (with_reducible repeat (first | refine blk_drewN ?_ _ | refine blk_drew ?_ | refine blk_alloc ?_ _)); refine blk_far ?_ NB117_120.out _; (with_reducible repeat (first | refine blk_drewN ?_ _ | refine blk_drew ?_ | refine blk_alloc ?_ _)); refine blk_far ?_ NB117_120.out _; (with_reducible repeat (first | refine blk_drewN ?_ _ | refine blk_drew ?_ | refine blk_alloc ?_ _)); exact BK117.out) hb); replace BK118 := Aside0.mk (blk_below (g := gb118) (o := .cells #[.int .i64 a1_0, .int .i64 a1_1, .int .i64 a1_2, .int .i64 a1_3, .int .i64 a1_4, .int .i64 a1_5] 70 (0, 0)) (by (with_reducible repeat (first | refine blk_drewN ?_ _ | refine blk_drew ?_ | refine blk_alloc ?_ _)); refine blk_far ?_ NB118_120.out _; (with_reducible repeat (first | refine blk_drewN ?_ _ | refine blk_drew ?_ | refine blk_alloc ?_ _)); refine blk_far ?_ NB118_120.out _; (with_reducible repeat (first | refine blk_drewN ?_ _ | refine blk_drew ?_ | refine blk_alloc ?_ _)); exact BK118.out) hb); replace BK120 := Aside0.mk (blk_below (g := gb120) (o := .cells #[.slice A119_0 ((rd_T64 l0_1 x13_1).f0).length c119_0, .slice A119_1 ((rd_T64 l0_1 x13_1).f1).length c119_1] 64 (0, 0)) (by (with_reducible repeat (first | refine blk_drewN ?_ _ | refine blk_drew ?_ | refine blk_alloc ?_ _)); refine blk_put (cs := #[.slice A119_0 ((rd_T64 l0_1 x13_1).f0).length c119_0, .slice none 0 0]) ?_ 1 _ rfl; (with_reducible repeat (first | refine blk_drewN ?_ _ | refine blk_drew ?_ | refine blk_alloc ?_ _)); refine blk_put (cs := #[.slice none 0 0, .slice none 0 0]) ?_ 0 _ rfl; (with_reducible repeat (first | refine blk_drewN ?_ _ | refine blk_drew ?_ | refine blk_alloc ?_ _)); exact BK120.out) hb); replace HB := Aside0.mk (below_step bel hb); (try clear hb); (try clear hb2); (try clear hk); (try clear hi)) | ((with_reducible refine gate_dst (N := 8) rfl ?_); refine box_event ?hg (N := 8) ?hd (cs := #[.int .i64 0, .int .i64 0, .int .i64 0, .int .i64 0, .int .i64 0, .int .i64 0]) (t := 70) ?hr ?_; (case hd => rfl); (case hg => rfl); (case hr => first | (go_simp; done) | (go_simp; rfl)); intro gb128 hg w33 hbox hb; have BK128 := Aside0.mk (hbox); have GW128 := bsz (w := w) hg; have GE128 := GW128; have NB117_128 := neL (g := gb117) hg; have NB128_117 := neR (g := gb117) hg; have NB118_128 := neL (g := gb118) hg; have NB128_118 := neR (g := gb118) hg; have NB120_128 := neL (g := gb120) hg; have NB128_120 := neR (g := gb120) hg; replace HO_5 := Aside0.mk (Kd.R_below (ownx HO_5) hb); replace BK117 := Aside0.mk (blk_below (g := gb117) blkz hb); replace BK118 := Aside0.mk (blk_below (g := gb118) blkz hb); replace BK120 := Aside0.mk (blk_below (g := gb120) blkz hb); replace HB := Aside0.mk (below_step bel hb); clear hb hbox hg; have hnb34 := NB128_117.out; have hnc34 := NB117_128.out; have hnb35 := NB128_118.out; have hnc35 := NB118_128.out; have hnb36 := NB128_120.out; have hnc36 := NB120_128.out; obtain ⟨hcz37_0, hcz37_1, hcz37_2, hcz37_3, hcz37_4, hcz37_5⟩ := bc6 BK128.out; obtain ⟨hfz37_0, hfz37_1, hfz37_2, hfz37_3, hfz37_4, hfz37_5⟩ := bf6 BK128.out))
       go_roundg k1
       case measure => have := HK1.out; omega
       case rel => exact ⟨(x5_1), (wrap64 (x13_1 + 1)), rsz, H', ⟨by have := HK1.out; omega⟩, ⟨by (with_reducible repeat (first | apply Kd.R_alloc | apply Kd.R_drewN | apply Kd.R_drew)); exact Kd.R_mono (Kd.R_far (p := ⟨gb128, 5, none⟩) (Kd.R_far (p := ⟨gb128, 4, none⟩) (Kd.R_far (p := ⟨gb128, 3, none⟩) (Kd.R_far (p := ⟨gb128, 2, none⟩) (Kd.R_far (p := ⟨gb128, 1, none⟩) (Kd.R_far (p := ⟨gb128, 0, none⟩) (Kd.R_types HO_5.out BK128.out (by decide)) (fun _ hk => hk.2) (.int .i64 t121)) (fun _ hk => hk.2) (.int .i64 t122)) (fun _ hk => hk.2) (.int .i64 t123)) (fun _ hk => hk.2) (.int .i64 t124)) (fun _ hk => hk.2) (.int .i64 t125)) (fun _ hk => hk.2) (.int .i64 t126)) (fun _ hk => trivial)⟩, ⟨by (with_reducible repeat (first | refine blk_drewN ?_ _ | refine blk_drew ?_ | refine blk_alloc ?_ _)); refine blk_far ?_ NB117_128.out _; (with_reducible repeat (first | refine blk_drewN ?_ _ | refine blk_drew ?_ | refine blk_alloc ?_ _)); refine blk_far ?_ NB117_128.out _; (with_reducible repeat (first | refine blk_drewN ?_ _ | refine blk_drew ?_ | refine blk_alloc ?_ _)); refine blk_far ?_ NB117_128.out _; (with_reducible repeat (first | refine blk_drewN ?_ _ | refine blk_drew ?_ | refine blk_alloc ?_ _)); refine blk_far ?_ NB117_128.out _; (with_reducible repeat (first | refine blk_drewN ?_ _ | refine blk_drew ?_ | refine blk_alloc ?_ _)); refine blk_far ?_ NB117_128.out _; (with_reducible repeat (first | refine blk_drewN ?_ _ | refine blk_drew ?_ | refine blk_alloc ?_ _)); refine blk_far ?_ NB117_128.out _; (with_reducible repeat (first | refine blk_drewN ?_ _ | refine blk_drew ?_ | refine blk_alloc ?_ _)); exact BK117.out⟩, ⟨by (with_reducible repeat (first | refine blk_drewN ?_ _ | refine blk_drew ?_ | refine blk_alloc ?_ _)); refine blk_far ?_ NB118_128.out _; (with_reducible repeat (first | refine blk_drewN ?_ _ | refine blk_drew ?_ | refine blk_alloc ?_ _)); refine blk_far ?_ NB118_128.out _; (with_reducible repeat (first | refine blk_drewN ?_ _ | refine blk_drew ?_ | refine blk_alloc ?_ _)); refine blk_far ?_ NB118_128.out _; (with_reducible repeat (first | refine blk_drewN ?_ _ | refine blk_drew ?_ | refine blk_alloc ?_ _)); refine blk_far ?_ NB118_128.out _; (with_reducible repeat (first | refine blk_drewN ?_ _ | refine blk_drew ?_ | refine blk_alloc ?_ _)); refine blk_far ?_ NB118_128.out _; (with_reducible repeat (first | refine blk_drewN ?_ _ | refine blk_drew ?_ | refine blk_alloc ?_ _)); refine blk_far ?_ NB118_128.out _; (with_reducible repeat (first | refine blk_drewN ?_ _ | refine blk_drew ?_ | refine blk_alloc ?_ _)); exact BK118.out⟩, ⟨bel⟩⟩
     ·
      rw [if_neg c9] at H
      exact absurd H (by simp)
    ·
     rw [if_neg c8] at H
     exact absurd H (by simp)
   ·
    rw [if_neg c7] at H
    have c7b0 : decide (x13_1 < (l0_1.length : Int)) = false := decide_eq_false c7
    clear c7
    obtain rfl := Option.some.inj H
    go_wp2
    go_ret
    exact ⟨_, ezz, by (with_reducible repeat (first | apply Kd.R_alloc | apply Kd.R_drewN | apply Kd.R_drew)); exact HO_5.out, bel⟩

/-! ### key_play: function 59 -/
def key_play.back (st : List S107) : Nat → Int → List Int → Option (List Int)
 | 0, _, _ => none
 | m + 1, i, out => if h : 0 ≤ i ∧ i.toNat < st.length then (if 0 ≤ (st[i.toNat]'h.2).f0 then (if out.length < 1000000 then key_play.back st m (st[i.toNat]'h.2).f0 (out ++ [(st[i.toNat]'h.2).f1]) else none) else some out) else none
def key_play.play (is : S70 → Bool) (a0_0 : Int) (l0_1 : List S64) (l1 l2 : List Int) : Option (List Int × Int) := (key_open.f a0_0 l0_1 [l1, l2]).bind fun e => if e = 0 then (key_keysOf.f l1).bind fun (x0, x1, x2, x3, x4, x5) => (key_spread.f a0_0 l0_1 x0 x1 x2 x3 x4 x5).bind fun (all, st, ok) => if ok = true then (if Idx.idxFrom is all < 0 then some ([], 5) else (key_play.back st 400 (Idx.idxFrom is all) []).map fun o => (o.reverse, 0)) else some ([], 4) else some ([], e)
theorem key_play.back_len {st : List S107} : ∀ {m : Nat} {i : Int} {out o : List Int}, key_play.back st m i out = some o → out.length ≤ 1000000 → o.length ≤ 1000000
 | 0, _, _, _, h, _ => by simp [key_play.back] at h
 | m + 1, i, out, o, h, hl => by
  rw [key_play.back] at h
  split at h
  ·
   split at h
   ·
    split at h
    ·
     exact key_play.back_len h (by rw [List.length_append, List.length_singleton]; omega)
    ·
     cases h
   ·
    cases h; exact hl
  ·
   cases h
theorem key_play.step_grown {w W W1 : World} {v v' : Value} {out : List Int} {st : List S107} (h : k107.R 107 W w.heap.size (fun _ => True) v st) (h4 : (Kd.int .i64).R 3 W w.heap.size (fun _ => True) v' out) (g7 : W.grownBy W1 v'.ownBlock) : k107.R 107 W1 w.heap.size (fun _ => True) v st := by
 refine Kd.R_mono (ok := fun j => True ∧ some j ≠ v'.ownBlock) (Kd.R_grown (Kd.R_mono (Kd.R_bound h) (fun k hk => ⟨hk.1, fun e => ?_⟩)) g7 (fun k hk => hk.2)) (fun k hk => trivial)
 obtain ⟨inner, ho⟩ := Kd.R_own h4
 obtain ⟨cells, hc⟩ := own_typed ho k e.symm
 obtain ⟨_, _, _, t, ht, cells', hc'⟩ := hk
 rw [hc] at hc'
 injection hc' with hc'
 injection hc' with _ hc' _
 subst hc'
 revert ht
 decide
section
open Go.Shelf Go.Lib Go.Sort
theorem key_play.open_in {n : Int} {ts : List S64} {l1 l2 : List Int} (h : key_open.f n ts [l1, l2] = some 0) : ∀ y ∈ l2, 0 ≤ y ∧ y ≤ 100 := by
 unfold key_open.f at h
 obtain ⟨v, _, h⟩ := Option.bind_eq_some_iff.1 h
 split at h
 ·
  split at h
  ·
   cases h
  ·
   rename_i hb
   intro y hy
   have h2 : key_open.bad n l2 = false := by
    cases e : key_open.bad n l2 with
    | false => rfl
    | true => exact absurd (by simp [e]) hb
   unfold key_open.bad at h2
   simp only [Bool.not_eq_false', Bool.and_eq_true, Bool.not_eq_true', decide_eq_true_eq] at h2
   have h3 := List.any_eq_false.1 h2.2 y hy
   simp only [key_isList.bad, Bool.not_eq_true', Bool.and_eq_true, decide_eq_true_eq, Bool.not_eq_false'] at h3
   simpa using h3
 ·
  cases h
theorem key_play.rd_get (l : List S70) (x : Int) (h0 : 0 ≤ x) (h1 : x < (l.length : Int)) : ∃ h : x.toNat < l.length, rd_T70 l x = l[x.toNat] := by
 have h : x.toNat < l.length := by omega
 exact ⟨h, by simp [rd_T70, List.getD_eq_getElem?_getD, h]⟩
set_option maxHeartbeats 2000000 in
set_option maxRecDepth 100000 in
theorem key_play.index (c : Nat) (cs : Array Value) (p : S70 → Bool) (A0 : Option Addr) (c0 : Nat) (l0 : List S70) (w : World) (hr0 : Kd.C k70 w A0 l0.length l0) (hc0 : l0.length ≤ c0)
  (he : ∀ (vs : Array Value) (W : World), (callFunc c vs).run Try.prog W = .ok (.enter c vs) W)
  (hf : ∀ (x : S70), x ∈ l0 → ∀ (W : World), Below w.heap.size w W → Calls Try.prog c (#[.agg #[.int .i64 x.f0, .int .i64 x.f1, .int .i64 x.f2, .int .i64 x.f3, .int .i64 x.f4, .int .i64 x.f5]] ++ cs) W fun e w' => e = .returned (.bool (p x)) ∧ Below W.heap.size W w') :
  Calls Try.prog 91 #[.slice A0 l0.length c0, .func (.func c) #[] cs] w fun e w' => e = .returned (.int .i64 (Idx.idxFrom p l0)) ∧ Below w.heap.size w w' := by
 have hl : l0.length ≤ 9223372036854775807 := hr0.2.1
 have HR := Aside0.mk hr0
 have HF := Aside0.mk hf
 clear hr0 hf
 have hu := Try.underlying70
 go_enter Try.func91, Try.ntmps91
 go_wp2
 go_loopg [5, 8] l0.length (fun kq v5 v8 w' => ∃ x : Int, v8 = .int .i64 x ∧ Aside0 (0 ≤ x ∧ x ≤ l0.length ∧ ∀ j (h : j < l0.length), (j : Int) < x → p l0[j] = false) ∧ Aside0 (kq = l0.length - x.toNat) ∧ Aside0 (Below w.heap.size w w'))
 case atStart => exact ⟨0, rfl, ⟨by omega, by omega, fun _ _ h => by omega⟩, ⟨rfl⟩, ⟨Below.refl _ _⟩⟩
 case round =>
  obtain ⟨x, rfl, HI, HK, HB⟩ := hrel
  by_cases hlt : x < (l0.length : Int)
  ·
   have h1 : decide (x < (l0.length : Int)) = true := decide_eq_true hlt
   have p1 : 0 ≤ x := HI.out.1
   have HR0 := Aside0.mk (Kd.C_below HR.out HB.out)
   obtain ⟨ad, e1, hx0, hx1, hx2, hx3, hx4, hx5⟩ := at_T70 HR0.out x p1 hlt
   cases e1
   have HX := Aside0.mk (And.intro p1 hlt)
   have HM : Aside0 ((rd_T70 l0 x) ∈ l0) := ⟨by obtain ⟨h2, h3⟩ := key_play.rd_get l0 x p1 hlt; rw [h3]; exact List.getElem_mem h2⟩
   replace p1 := eq_true p1
   replace hlt := eq_true hlt
   by_cases hp : p (rd_T70 l0 x) = true
   ·
    go_wp2_with (go_simp; with_reducible refine (HF.out (rd_T70 l0 x) HM.out _ HB.out).mono ?_; rintro e w' ⟨rfl, hb⟩; have HB2 := Aside0.mk hb; clear hb)
    go_ret
    obtain ⟨h2, h3⟩ := key_play.rd_get l0 x HX.out.1 HX.out.2
    rw [h3] at hp
    refine ⟨?_, below_step HB.out HB2.out⟩
    rw [Idx.idxFrom_at h2 hp (fun j hj hl => HI.out.2.2 j hj (by omega)), Int.toNat_of_nonneg HX.out.1]; rfl
   ·
    replace hp := Bool.eq_false_iff.mpr hp
    go_wp2_with (go_simp; with_reducible refine (HF.out (rd_T70 l0 x) HM.out _ HB.out).mono ?_; rintro e w' ⟨rfl, hb⟩; have HB2 := Aside0.mk hb; clear hb)
    go_roundg (l0.length - (x + 1).toNat)
    case measure => have := HX.out; have := HK.out; omega
    case rel =>
     obtain ⟨h2, h3⟩ := key_play.rd_get l0 x HX.out.1 HX.out.2
     have hw : wrap64 (x + 1) = x + 1 := by unfold wrap64; have := HX.out; omega
     refine ⟨x + 1, by first | rfl | rw [hw], ⟨by have := HX.out; omega, by have := HX.out; omega, fun j hj hl => ?_⟩, ⟨rfl⟩, ⟨below_step HB.out HB2.out⟩⟩
     by_cases hjx : (j : Int) < x
     ·
      exact HI.out.2.2 j hj hjx
     ·
      have : j = x.toNat := by omega
      subst this
      rw [← h3]; exact hp
  ·
   have h1 : decide (x < (l0.length : Int)) = false := decide_eq_false hlt
   go_wp2
   go_ret
   refine ⟨?_, HB.out⟩
   rw [Idx.idxFrom_none (fun j hj hl => HI.out.2.2 j hj (by omega))]; rfl
theorem key_play.reps_ints {w : World} {base : Nat} {ok : Nat → Prop} {xs : List Int} {cs : List Value} (h : Reps ((Kd.int .i64).M w base ok) 1 xs cs) : cs = xs.map (Value.int .i64) := by
 obtain ⟨h1, h2⟩ := h
 apply List.ext_getElem?
 intro j
 by_cases hj : j < xs.length
 ·
  have h3 := h2 j xs[j] (by simp [hj])
  have h4 : (cs.drop (j * 1)).take 1 = [.int .i64 xs[j]] := h3
  have h5 : ((cs.drop (j * 1)).take 1)[0]? = some (.int .i64 xs[j]) := by rw [h4]; rfl
  rw [List.getElem?_take_of_lt (by omega), List.getElem?_drop] at h5
  simp only [Nat.mul_one, Nat.add_zero] at h5
  rw [h5]; simp [hj]
 ·
  rw [List.getElem?_eq_none (by omega), List.getElem?_eq_none (by simp; omega)]
theorem key_play.rev {w : World} {base : Nat} {ok : Nat → Prop} {v : Value} {l : List Int} (h : Kd.R (Kd.int .i64) 3 w base ok v l) (hl : l.length ≤ 1000000) :
  Calls Try.prog 92 #[v] w fun e w' => e = .returned (.tuple #[]) ∧ Kd.R (Kd.int .i64) 3 w' base ok v l.reverse ∧ w.grownBy w' v.ownBlock := by
 by_cases hx : l = []
 ·
  subst hx
  obtain ⟨A, c, rfl⟩ := Kd.R_slice h
  refine (Try.slices_Reverse_int_empty A c w).mono ?_
  rintro e w' ⟨rfl, rfl⟩
  exact ⟨rfl, h, World.grownBy.refl _ _⟩
 ·
  obtain ⟨hok, inner, ho, hr⟩ := h
  obtain rfl := key_play.reps_ints hr
  rcases ho.2 with ⟨_, h0⟩ | ⟨g, cap, cur, rfl, hg, hh, hnc, hcm, hcs, ht⟩
  ·
   exact absurd (List.length_eq_zero_iff.1 h0) hx
  have hcs' : cur.size = cap * 1 := hcs
  have ht' : cur.toList.take l.length = l.map (Value.int .i64) := by have h1 := ht; simp only [show (Kd.int IntKind.i64).sz = 1 from rfl, Nat.mul_one] at h1; exact h1
  refine (Try.slices_Reverse_int g 0 cap l w (holds_of_blockI hh ht') (by omega)).mono ?_
  rintro e w' ⟨rfl, n, rfl⟩
  have hsz : l.reverse.length = l.length := List.length_reverse
  have hgr := grownBy_sortedI (w := w) (g := g) (n := n) (os := #[]) l.reverse.toArray
  have hown := ownsRow_sortedI (w := w) (base := base) (n := n) (os := #[]) hsz hg hh hnc hcm hcs'
  rw [grow_empty] at hgr hown
  refine ⟨rfl, Kd.R_of_own (enc := Value.int .i64) (h1 := fun _ => rfl) (by rw [hsz]; exact hown) hok, hgr⟩
theorem key_play.two {w w2 : World} {g : Nat} {A1 : Option Addr} {c1 : Nat} {l1 : List Int} {A2 : Option Addr} {c2 : Nat} {l2 : List Int} (h : w2.heap[g]? = some (.cells #[.slice A1 l1.length c1, .slice A2 l2.length c2] 25 (0, 0))) (hr : Kd.C (Kd.int .i64) w A1 l1.length l1) (hc : l1.length ≤ c1) (hr2 : Kd.C (Kd.int .i64) w A2 l2.length l2) (hc2 : l2.length ≤ c2) (hb : Below w.heap.size w w2) : Kd.C (Kd.slice 3 (Kd.int .i64)) w2 (some ⟨g, 0, none⟩) [l1, l2].length [l1, l2] := by
 have one : ∀ (i : Nat) (A : Option Addr) (l : List Int) (c : Nat), (#[.slice A1 l1.length c1, .slice A2 l2.length c2] : Array Value)[i]? = some (.slice A l.length c) → Kd.C (Kd.int .i64) w A l.length l → l.length ≤ c → ∃ cs : List Value, cs.length = (Kd.slice 3 (Kd.int .i64)).sz ∧ (Kd.slice 3 (Kd.int .i64)).K w2 l cs ∧ ∀ q u, cs[q]? = some u → w2.cell? ((⟨g, 0, none⟩ : Addr).add (i * (Kd.slice 3 (Kd.int .i64)).sz + q)) = some u := by
  intro i A l c hi hrl hcl
  refine ⟨[.slice A l.length c], rfl, ⟨A, c, rfl, hcl, Kd.C_below hrl hb⟩, fun q u hu => ?_⟩
  have hq : q = 0 := by
   have := (List.getElem?_eq_some_iff.1 hu).1
   simp at this; omega
  subst hq
  have hu2 : u = .slice A l.length c := by simpa using hu.symm
  subst hu2
  have e : (⟨g, 0, none⟩ : Addr).add (i * (Kd.slice 3 (Kd.int .i64)).sz + 0) = ⟨g, i, none⟩ := by
   show (⟨g, 0, none⟩ : Addr).add (i * 1 + 0) = _
   unfold Addr.add
   split
   ·
    simp_all
   ·
    simp
  rw [e]
  exact blkc h i _ hi
 refine ⟨rfl, by simp, fun _ => ⟨_, rfl, fun j p hj => ?_⟩⟩
 match j, hj with
 | 0, hj =>
  obtain rfl : l1 = p := by simpa using hj
  exact one 0 A1 l1 c1 rfl hr hc
 | 1, hj =>
  obtain rfl : l2 = p := by simpa using hj
  exact one 1 A2 l2 c2 rfl hr2 hc2
 | n + 2, hj => simp at hj
set_option maxHeartbeats 8000000 in
set_option maxRecDepth 100000 in
theorem key_play.plays (c : Nat) (cs : Array Value) (is : S70 → Bool) (a0_0 : Int) (A0_1 : Option Addr) (c0_1 : Nat) (l0_1 : List S64) (A1 : Option Addr) (c1 : Nat) (l1 : List Int) (A2 : Option Addr) (c2 : Nat) (l2 : List Int) (r1 : List Int) (r2 : Int) (w : World) (hr0_1 : Kd.C k64 w A0_1 l0_1.length l0_1) (hc0_1 : l0_1.length ≤ c0_1) (hr1 : Kd.C (Kd.int .i64) w A1 l1.length l1) (hc1 : l1.length ≤ c1) (hr2 : Kd.C (Kd.int .i64) w A2 l2.length l2) (hc2 : l2.length ≤ c2)
  (he : ∀ (vs : Array Value) (W : World), (callFunc c vs).run Try.prog W = .ok (.enter c vs) W)
  (hf : (∀ y ∈ l2, 0 ≤ y ∧ y ≤ 100) → ∀ (x : S70) (W : World), wf6 (key_spread.toL x) → Below w.heap.size w W → Calls Try.prog c (#[.agg #[.int .i64 x.f0, .int .i64 x.f1, .int .i64 x.f2, .int .i64 x.f3, .int .i64 x.f4, .int .i64 x.f5]] ++ cs) W fun e w' => e = .returned (.bool (is x)) ∧ Below W.heap.size W w')
  (h : key_play.play is a0_0 l0_1 l1 l2 = some (r1, r2)) :
  Calls Try.prog 59 #[.agg #[.int .i64 a0_0, .slice A0_1 l0_1.length c0_1], .slice A1 l1.length c1, .slice A2 l2.length c2, .func (.func c) #[] cs] w fun e w' => ∃ v0_ : Value, e = .returned (.tuple #[v0_, .int .i64 r2]) ∧ Kd.R (Kd.int .i64) 3 w' w.heap.size (fun _ => True) v0_ r1 ∧ Below w.heap.size w w' := by
 have hu := Try.underlying24
 have HR := Aside0.mk hr0_1
 have HC := Aside0.mk hc0_1
 have HR1 := Aside0.mk hr1
 have HC1 := Aside0.mk hc1
 have HR2 := Aside0.mk hr2
 have HC2 := Aside0.mk hc2
 clear hr2 hc2
 have HF := Aside0.mk hf
 clear hf
 clear hr0_1 hc0_1 hr1 hc1
 unfold key_play.play at h
 obtain ⟨e, hop, h⟩ := Option.bind_eq_some_iff.1 h
 obtain ⟨w2, hw2⟩ : ∃ W, W = (w.alloc (.cells #[.int .i64 a0_0, .slice A0_1 l0_1.length c0_1] 24)).alloc (.cells #[.slice A1 l1.length c1, .slice A2 l2.length c2] 25) := ⟨_, rfl⟩
 have s1 : (w.alloc (.cells #[.int .i64 a0_0, .slice A0_1 l0_1.length c0_1] 24)).heap.size = w.heap.size + 1 := Array.size_push ..
 have HB2 : Aside0 (Below w.heap.size w w2) := ⟨by rw [hw2]; exact below_alloc (below_alloc (Below.refl _ _) _) _⟩
 have G2 : Aside0 (w2.heap[w.heap.size]? = some (.cells #[.int .i64 a0_0, .slice A0_1 l0_1.length c0_1] 24 (0, 0))) := ⟨by rw [hw2]; exact blk_alloc (blk_new w _) _⟩
 have L2 : w2.heap[w.heap.size + 1]? = some (.cells #[.slice A1 l1.length c1, .slice A2 l2.length c2] 25 (0, 0)) := by rw [hw2, ← s1]; exact blk_new _ _
 have HLL : Kd.C (Kd.slice 3 (Kd.int .i64)) w2 (some ⟨w.heap.size + 1, 0, none⟩) [l1, l2].length [l1, l2] := key_play.two L2 HR1.out HC1.out HR2.out HC2.out HB2.out
 have HOP : Aside0 (Calls Try.prog 68 #[.agg #[.int .i64 a0_0, .slice A0_1 l0_1.length c0_1], .slice (some ⟨w.heap.size + 1, 0, none⟩) 2 2] w2 fun e' w' => e' = .returned (.int .i64 e) ∧ Below w2.heap.size w2 w') := ⟨key_open.calls a0_0 A0_1 c0_1 l0_1 (some ⟨w.heap.size + 1, 0, none⟩) 2 [l1, l2] e w2 (Kd.C_below HR.out HB2.out) HC.out HLL (Nat.le_refl _) hop⟩
 have HW := Aside0.mk hw2
 have HOPF := Aside0.mk hop
 clear hop s1 L2 HLL hw2
 by_cases hz : e = 0
 ·
  subst hz
  rw [if_pos rfl] at h
  obtain ⟨⟨x0, x1, x2, x3, x4, x5⟩, hk, h⟩ := Option.bind_eq_some_iff.1 h
  obtain ⟨⟨all, st, ok⟩, hsp, h⟩ := Option.bind_eq_some_iff.1 h
  have HK := Aside0.mk hk
  have HSP := Aside0.mk hsp
  have HWF := Aside0.mk (key_spread.wfs hsp)
  have HIN := Aside0.mk (key_play.open_in HOPF.out)
  clear hk hsp
  cases ok with
  | false =>
   simp only [Bool.false_eq_true, if_false, Option.some.injEq, Prod.mk.injEq] at h
   obtain ⟨rfl, rfl⟩ := h
   go_enter Try.func59, Try.ntmps59
   go_wp2_with (first | (go_at_call 68; rw [← HW.out]; refine HOP.out.mono ?_; rintro e' w3 ⟨rfl, hb⟩; have HB3 := Aside0.mk (below_step HB2.out hb); have G3 := Aside0.mk (blk_below G2.out hb); have k0 := blkc G3.out 0 (.int .i64 a0_0) rfl; have k1 := blkc G3.out 1 (.slice A0_1 l0_1.length c0_1) rfl; clear hb))
   clear k0 k1
   refine start_ (n := 11) (S := fun w' => w'.cell? ⟨w.heap.size, 0, none⟩ = some (.int .i64 a0_0) ∧ w'.cell? ⟨w.heap.size, 1, none⟩ = some (.slice A0_1 l0_1.length c0_1)) (ds := []) #[false, false, false, false, false, false, false, false, false, false, false] (by kernel_rfl) rfl rfl ⟨blkc (blk_drew G3.out) 0 _ rfl, blkc (blk_drew G3.out) 1 _ rfl⟩ (fun hHeld => ?_)
   replace HB3 := Aside0.mk (below_drew1 HB3.out)
   replace G3 := Aside0.mk (blk_drew G3.out)
   generalize w3.drew = w4 at HB3 G3 hHeld ⊢
   refine tst2 (i := 0) (N := some 25) (bz 11 1) (by kernel_rfl) hHeld ?_
   refine pst (i := 1) (N := some 26) (bz 11 3) (by kernel_rfl) ?_
   refine one_ (i := 2) (N := some 27) #[true, true, true, false, false, false, false, false, false, false, false] rfl rfl (by kernel_rfl) (by decide) (fun K hK => ?_)
   refine goes_ Try.func61 (by kernel_rfl) rfl #[.slice A1 l1.length c1] (by rfl) rfl rfl mapz ?_
   refine (key_keysOf.calls A1 c1 l1 x0 x1 x2 x3 x4 x5 _ (Kd.C_below HR1.out HB3.out) HC1.out HK.out).mono ?_
   rintro e' w5 ⟨rfl, hb⟩
   refine ⟨_, rfl, ?_⟩
   have HB5 := Aside0.mk (below_step HB3.out hb)
   have G5 := Aside0.mk (blk_below G3.out hb)
   clear hb
   refine hK.out _ _ ⟨blkc G5.out 0 _ rfl, blkc G5.out 1 _ rfl⟩ (fun hHeld => ?_)
   clear hK K
   refine norm_ (a' := ?_) ?_ ?_
   rotate_left
   ·
    show Act.put _ (some 27) _ = _
    simp only [Act.put, List.setIfInBounds_toArray, List.set_cons_zero, List.set_cons_succ, i64_w, i32_w]
    rfl
   refine one_ (i := 3) (N := some 28) #[true, true, true, true, false, false, false, false, false, false, false] rfl rfl (by kernel_rfl) (by decide) (fun K hK => ?_)
   refine goes_ Try.func87 (by kernel_rfl) rfl #[.agg #[.int .i64 a0_0, .slice A0_1 l0_1.length c0_1], .agg #[.int .i64 x0, .int .i64 x1, .int .i64 x2, .int .i64 x3, .int .i64 x4, .int .i64 x5]] (by rfl) rfl rfl mapz ?_
   refine (key_spread.calls a0_0 A0_1 c0_1 l0_1 x0 x1 x2 x3 x4 x5 all st _ _ (Kd.C_below HR.out HB5.out) HC.out HSP.out).mono ?_
   rintro e' w6 ⟨v6, v7, rfl, ho6, ho7, hb⟩
   refine ⟨_, rfl, ?_⟩
   have HB6 := Aside0.mk (below_step HB5.out hb)
   have G6 := Aside0.mk (blk_below G5.out hb)
   have HO6 := Aside0.mk (Kd.R_lower ho6 HB5.out.size)
   have HS6 := Aside0.mk (Kd.R_lower ho7 HB5.out.size)
   clear hb ho6 ho7
   refine hK.out _ _ ⟨blkc G6.out 0 _ rfl, blkc G6.out 1 _ rfl⟩ (fun hHeld => ?_)
   clear hK K
   refine norm_ (a' := ?_) ?_ ?_
   rotate_left
   ·
    show Act.put _ (some 28) _ = _
    simp only [Act.put, List.setIfInBounds_toArray, List.set_cons_zero, List.set_cons_succ, i64_w, i32_w]
    rfl
   refine pst (i := 4) (N := some 24) (bz 11 31) (by kernel_rfl) ?_
   refine pst (i := 5) (N := some 29) (bz 11 63) (by kernel_rfl) ?_
   refine pst (i := 6) (N := some 30) (bz 11 127) (by kernel_rfl) ?_
   refine pst (i := 7) (N := some 31) (bz 11 255) (by kernel_rfl) ?_
   refine pst (i := 8) (N := some 11) (bz 11 511) (by kernel_rfl) ?_
   refine pst (i := 9) (N := some 12) (bz 11 1023) (by kernel_rfl) ?_
   refine pst (i := 10) (N := some 13) (bz 11 2047) (by kernel_rfl) ?_
   refine done_ (by kernel_rfl) ?_
   go_wp2
   go_ret2
   exact ⟨_, rfl, Kd.R_nil _ _ _ _ _, HB6.out⟩
  | true =>
   simp only [if_true] at h
   obtain ⟨ix, hix⟩ : ∃ ix, ix = Idx.idxFrom is all := ⟨_, rfl⟩
   rw [← hix] at h
   have HIX := Aside0.mk hix
   clear hix
   by_cases hneg : ix < 0
   ·
    rw [if_pos hneg] at h
    simp only [Option.some.injEq, Prod.mk.injEq] at h
    obtain ⟨rfl, rfl⟩ := h
    have hne2 : decide (ix < 0) = true := decide_eq_true hneg
    clear hneg
    go_enter Try.func59, Try.ntmps59
    go_wp2_with (first | (go_at_call 68; rw [← HW.out]; refine HOP.out.mono ?_; rintro e' w3 ⟨rfl, hb⟩; have HB3 := Aside0.mk (below_step HB2.out hb); have G3 := Aside0.mk (blk_below G2.out hb); have k0 := blkc G3.out 0 (.int .i64 a0_0) rfl; have k1 := blkc G3.out 1 (.slice A0_1 l0_1.length c0_1) rfl; clear hb))
    clear k0 k1
    refine start_ (n := 11) (S := fun w' => w'.cell? ⟨w.heap.size, 0, none⟩ = some (.int .i64 a0_0) ∧ w'.cell? ⟨w.heap.size, 1, none⟩ = some (.slice A0_1 l0_1.length c0_1)) (ds := []) #[false, false, false, false, false, false, false, false, false, false, false] (by kernel_rfl) rfl rfl ⟨blkc (blk_drew G3.out) 0 _ rfl, blkc (blk_drew G3.out) 1 _ rfl⟩ (fun hHeld => ?_)
    replace HB3 := Aside0.mk (below_drew1 HB3.out)
    replace G3 := Aside0.mk (blk_drew G3.out)
    generalize w3.drew = w4 at HB3 G3 hHeld ⊢
    refine tst2 (i := 0) (N := some 25) (bz 11 1) (by kernel_rfl) hHeld ?_
    refine pst (i := 1) (N := some 26) (bz 11 3) (by kernel_rfl) ?_
    refine one_ (i := 2) (N := some 27) #[true, true, true, false, false, false, false, false, false, false, false] rfl rfl (by kernel_rfl) (by decide) (fun K hK => ?_)
    refine goes_ Try.func61 (by kernel_rfl) rfl #[.slice A1 l1.length c1] (by rfl) rfl rfl mapz ?_
    refine (key_keysOf.calls A1 c1 l1 x0 x1 x2 x3 x4 x5 _ (Kd.C_below HR1.out HB3.out) HC1.out HK.out).mono ?_
    rintro e' w5 ⟨rfl, hb⟩
    refine ⟨_, rfl, ?_⟩
    have HB5 := Aside0.mk (below_step HB3.out hb)
    have G5 := Aside0.mk (blk_below G3.out hb)
    clear hb
    refine hK.out _ _ ⟨blkc G5.out 0 _ rfl, blkc G5.out 1 _ rfl⟩ (fun hHeld => ?_)
    clear hK K
    refine norm_ (a' := ?_) ?_ ?_
    rotate_left
    ·
     show Act.put _ (some 27) _ = _
     simp only [Act.put, List.setIfInBounds_toArray, List.set_cons_zero, List.set_cons_succ, i64_w, i32_w]
     rfl
    refine one_ (i := 3) (N := some 28) #[true, true, true, true, false, false, false, false, false, false, false] rfl rfl (by kernel_rfl) (by decide) (fun K hK => ?_)
    refine goes_ Try.func87 (by kernel_rfl) rfl #[.agg #[.int .i64 a0_0, .slice A0_1 l0_1.length c0_1], .agg #[.int .i64 x0, .int .i64 x1, .int .i64 x2, .int .i64 x3, .int .i64 x4, .int .i64 x5]] (by rfl) rfl rfl mapz ?_
    refine (key_spread.calls a0_0 A0_1 c0_1 l0_1 x0 x1 x2 x3 x4 x5 all st _ _ (Kd.C_below HR.out HB5.out) HC.out HSP.out).mono ?_
    rintro e' w6 ⟨v6, v7, rfl, ho6, ho7, hb⟩
    refine ⟨_, rfl, ?_⟩
    have HB6 := Aside0.mk (below_step HB5.out hb)
    have G6 := Aside0.mk (blk_below G5.out hb)
    have HO6 := Aside0.mk (Kd.R_lower ho6 HB5.out.size)
    have HS6 := Aside0.mk (Kd.R_lower ho7 HB5.out.size)
    clear hb ho6 ho7
    refine hK.out _ _ ⟨blkc G6.out 0 _ rfl, blkc G6.out 1 _ rfl⟩ (fun hHeld => ?_)
    clear hK K
    refine norm_ (a' := ?_) ?_ ?_
    rotate_left
    ·
     show Act.put _ (some 28) _ = _
     simp only [Act.put, List.setIfInBounds_toArray, List.set_cons_zero, List.set_cons_succ, i64_w, i32_w]
     rfl
    refine pst (i := 4) (N := some 24) (bz 11 31) (by kernel_rfl) ?_
    refine pst (i := 5) (N := some 29) (bz 11 63) (by kernel_rfl) ?_
    refine pst (i := 6) (N := some 30) (bz 11 127) (by kernel_rfl) ?_
    refine pst (i := 7) (N := some 31) (bz 11 255) (by kernel_rfl) ?_
    refine pst (i := 8) (N := some 11) (bz 11 511) (by kernel_rfl) ?_
    refine pst (i := 9) (N := some 12) (bz 11 1023) (by kernel_rfl) ?_
    refine pst (i := 10) (N := some 13) (bz 11 2047) (by kernel_rfl) ?_
    refine done_ (by kernel_rfl) ?_
    obtain ⟨A6, c6, e6⟩ := Kd.R_slice HO6.out
    subst e6
    go_wp2_with (go_at_call 91; refine (key_play.index c cs is A6 c6 all _ (Kd.R_reads' HO6.out).2.2 (Kd.R_reads' HO6.out).2.1 he (fun x hx W hb => HF.out HIN.out x W (HWF.out x hx) (below_step HB6.out hb))).mono ?_; rintro e' w7 ⟨rfl, hb⟩; have HB7 := Aside0.mk (below_step HB6.out hb); clear hb; rw [← HIX.out])
    go_ret2
    exact ⟨_, rfl, Kd.R_nil _ _ _ _ _, HB7.out⟩
   ·
    rw [if_neg hneg] at h
    obtain ⟨o, hback, h⟩ := Option.map_eq_some_iff.1 h
    simp only [Prod.mk.injEq] at h
    obtain ⟨rfl, rfl⟩ := h
    have hne2 : decide (ix < 0) = false := decide_eq_false hneg
    have HBK := Aside0.mk hback
    have HOL := Aside0.mk (key_play.back_len hback (by simp))
    clear hneg hback
    go_enter Try.func59, Try.ntmps59
    go_wp2_with (first | (go_at_call 68; rw [← HW.out]; refine HOP.out.mono ?_; rintro e' w3 ⟨rfl, hb⟩; have HB3 := Aside0.mk (below_step HB2.out hb); have G3 := Aside0.mk (blk_below G2.out hb); have k0 := blkc G3.out 0 (.int .i64 a0_0) rfl; have k1 := blkc G3.out 1 (.slice A0_1 l0_1.length c0_1) rfl; clear hb))
    clear k0 k1
    refine start_ (n := 11) (S := fun w' => w'.cell? ⟨w.heap.size, 0, none⟩ = some (.int .i64 a0_0) ∧ w'.cell? ⟨w.heap.size, 1, none⟩ = some (.slice A0_1 l0_1.length c0_1)) (ds := []) #[false, false, false, false, false, false, false, false, false, false, false] (by kernel_rfl) rfl rfl ⟨blkc (blk_drew G3.out) 0 _ rfl, blkc (blk_drew G3.out) 1 _ rfl⟩ (fun hHeld => ?_)
    replace HB3 := Aside0.mk (below_drew1 HB3.out)
    replace G3 := Aside0.mk (blk_drew G3.out)
    generalize w3.drew = w4 at HB3 G3 hHeld ⊢
    refine tst2 (i := 0) (N := some 25) (bz 11 1) (by kernel_rfl) hHeld ?_
    refine pst (i := 1) (N := some 26) (bz 11 3) (by kernel_rfl) ?_
    refine one_ (i := 2) (N := some 27) #[true, true, true, false, false, false, false, false, false, false, false] rfl rfl (by kernel_rfl) (by decide) (fun K hK => ?_)
    refine goes_ Try.func61 (by kernel_rfl) rfl #[.slice A1 l1.length c1] (by rfl) rfl rfl mapz ?_
    refine (key_keysOf.calls A1 c1 l1 x0 x1 x2 x3 x4 x5 _ (Kd.C_below HR1.out HB3.out) HC1.out HK.out).mono ?_
    rintro e' w5 ⟨rfl, hb⟩
    refine ⟨_, rfl, ?_⟩
    have HB5 := Aside0.mk (below_step HB3.out hb)
    have G5 := Aside0.mk (blk_below G3.out hb)
    clear hb
    refine hK.out _ _ ⟨blkc G5.out 0 _ rfl, blkc G5.out 1 _ rfl⟩ (fun hHeld => ?_)
    clear hK K
    refine norm_ (a' := ?_) ?_ ?_
    rotate_left
    ·
     show Act.put _ (some 27) _ = _
     simp only [Act.put, List.setIfInBounds_toArray, List.set_cons_zero, List.set_cons_succ, i64_w, i32_w]
     rfl
    refine one_ (i := 3) (N := some 28) #[true, true, true, true, false, false, false, false, false, false, false] rfl rfl (by kernel_rfl) (by decide) (fun K hK => ?_)
    refine goes_ Try.func87 (by kernel_rfl) rfl #[.agg #[.int .i64 a0_0, .slice A0_1 l0_1.length c0_1], .agg #[.int .i64 x0, .int .i64 x1, .int .i64 x2, .int .i64 x3, .int .i64 x4, .int .i64 x5]] (by rfl) rfl rfl mapz ?_
    refine (key_spread.calls a0_0 A0_1 c0_1 l0_1 x0 x1 x2 x3 x4 x5 all st _ _ (Kd.C_below HR.out HB5.out) HC.out HSP.out).mono ?_
    rintro e' w6 ⟨v6, v7, rfl, ho6, ho7, hb⟩
    refine ⟨_, rfl, ?_⟩
    have HB6 := Aside0.mk (below_step HB5.out hb)
    have G6 := Aside0.mk (blk_below G5.out hb)
    have HO6 := Aside0.mk (Kd.R_lower ho6 HB5.out.size)
    have HS6 := Aside0.mk (Kd.R_lower ho7 HB5.out.size)
    clear hb ho6 ho7
    refine hK.out _ _ ⟨blkc G6.out 0 _ rfl, blkc G6.out 1 _ rfl⟩ (fun hHeld => ?_)
    clear hK K
    refine norm_ (a' := ?_) ?_ ?_
    rotate_left
    ·
     show Act.put _ (some 28) _ = _
     simp only [Act.put, List.setIfInBounds_toArray, List.set_cons_zero, List.set_cons_succ, i64_w, i32_w]
     rfl
    refine pst (i := 4) (N := some 24) (bz 11 31) (by kernel_rfl) ?_
    refine pst (i := 5) (N := some 29) (bz 11 63) (by kernel_rfl) ?_
    refine pst (i := 6) (N := some 30) (bz 11 127) (by kernel_rfl) ?_
    refine pst (i := 7) (N := some 31) (bz 11 255) (by kernel_rfl) ?_
    refine pst (i := 8) (N := some 11) (bz 11 511) (by kernel_rfl) ?_
    refine pst (i := 9) (N := some 12) (bz 11 1023) (by kernel_rfl) ?_
    refine pst (i := 10) (N := some 13) (bz 11 2047) (by kernel_rfl) ?_
    refine done_ (by kernel_rfl) ?_
    obtain ⟨A6, c6, e6⟩ := Kd.R_slice HO6.out
    subst e6
    obtain ⟨A5, c5, e5⟩ := Kd.R_slice HS6.out
    subst e5
    go_wp2_with (go_at_call 91; refine (key_play.index c cs is A6 c6 all _ (Kd.R_reads' HO6.out).2.2 (Kd.R_reads' HO6.out).2.1 he (fun x hx W hb => HF.out HIN.out x W (HWF.out x hx) (below_step HB6.out hb))).mono ?_; rintro e' w7 ⟨rfl, hb⟩; have HB7 := Aside0.mk (below_step HB6.out hb); replace HS6 := Aside0.mk (Kd.R_below HS6.out hb); clear hb; rw [← HIX.out])
    have HSZ : Aside0 (∀ v : Value, v = .slice none 0 0 → True) := ⟨fun _ _ => trivial⟩
    go_loopg [14, 15] 400 (fun kq v14 v15 w' => ∃ (i : Int) (out : List Int), v14 = .int .i64 i ∧ Aside0 (key_play.back st kq i out = some o) ∧ Aside0 ((Kd.int .i64).R 3 w' w.heap.size (fun _ => True) v15 out) ∧ Aside0 (k107.R 107 w' w.heap.size (fun _ => True) (.slice A5 st.length c5) st) ∧ Aside0 (Below w.heap.size w w'))
    case atStart => exact ⟨ix, [], rfl, HBK, ⟨Kd.R_nil _ _ _ _ _⟩, HS6, HB7⟩
    case round =>
     clear HBK HS6 HB7 HSZ
     obtain ⟨i, out, rfl, HBK, HV, HS, HB⟩ := hrel
     obtain ⟨kn, hkn⟩ : ∃ kn, gk = kn + 1 := by
      cases gk with
      | zero => have := HBK.out; simp [key_play.back] at this
      | succ n => exact ⟨n, rfl⟩
     have hb := HBK.out
     rw [hkn, key_play.back] at hb
     have HKN := Aside0.mk hkn
     clear hkn HBK
     split at hb
     ·
      rename_i hi
      obtain ⟨s, hs⟩ : ∃ s, s = st[i.toNat]'hi.2 := ⟨_, rfl⟩
      rw [← hs] at hb
      have p1 := hi.1
      have p2 : i < (st.length : Int) := by have := hi.2; omega
      obtain ⟨ad, ea, m0, m1⟩ := at_T107 (Kd.R_reads' HS.out).2.2 i p1 p2
      cases ea
      have erd : rd_T107 st i = s := by rw [hs]; simp [rd_T107, List.getD_eq_getElem?_getD, hi.2]
      rw [erd] at m0 m1
      have HERD := Aside0.mk erd
      clear erd hs hi
      replace p1 := eq_true p1
      replace p2 := eq_true p2
      by_cases hf0 : 0 ≤ s.f0
      ·
       rw [if_pos hf0] at hb
       by_cases hol : ¬ out.length < 1000000
       ·
        rw [if_neg hol] at hb; cases hb
       replace hol := Decidable.not_not.1 hol
       rw [if_pos hol] at hb
       have t1 : decide (s.f0 ≥ 0) = true := decide_eq_true hf0
       have HB2 := Aside0.mk hb
       have HOUT := Aside0.mk hol
       have M := Aside0.mk (And.intro m0 m1)
       clear hb hol hf0
       go_wp2_with (((with_reducible refine gate_builtin (b := .append) (xs := #[.tmp 50, .tmp 56]) rfl ?_); at_builtin; refine Kd.R_append (Kd.int .i64) (w0 := w) w.heap.size rfl (.tmp 50) (.tmp 56) 25 3 (.int .i64 0) 8 rfl Try.underlying25 info3 rfl (by decide) (by omega) _ out s.f1 [.int .i64 s.f1] (fun _ => True) (fun _ => False) rfl rfl ?aP (fun _ hk => hk.elim) ?aF ?aO ?aB ?aS ?aL ?_; (case aP => exact rfl); (case aB => exact HB.out); (case aF => exact (fun _ _ => trivial)); (case aO => exact HV.out); (case aS => exact HB.out.size); (case aL => have := HOUT.out; omega); intro v57 w8 ho hb hg hat; have HV2 := Aside0.mk ho; have HB3 := Aside0.mk hb; have HS2 := Aside0.mk (key_play.step_grown HS.out HV.out hg); obtain ⟨ad', ea', n0, n1⟩ := at_T107 (Kd.R_reads' HS2.out).2.2 i (of_eq_true p1) (of_eq_true p2); cases ea'; rw [HERD.out] at n0 n1; clear ho hb hg hat))
       go_roundg kn
       case measure => have := HKN.out; omega
       case rel => exact ⟨s.f0, out ++ [s.f1], rfl, HB2, HV2, HS2, HB3⟩
      ·
       rw [if_neg hf0] at hb
       obtain rfl := Option.some.inj hb
       have t1 : decide (s.f0 ≥ 0) = false := decide_eq_false hf0
       clear hf0 hb
       go_wp2_with (go_at_call 92; refine (key_play.rev HV.out (by have := HOL.out; omega)).mono ?_; rintro e' w8 ⟨rfl, ho, hg⟩; have HO8 := Aside0.mk ho; have HB8 : Aside0 (Below w.heap.size w w8) := ⟨HB.out.grown hg HB.out.size (fun j hj => by obtain ⟨inner, h1⟩ := Kd.R_own HV.out; exact own_base h1 j hj)⟩; clear ho hg)
       go_ret2
       exact ⟨_, rfl, HO8.out, HB8.out⟩
     ·
      cases hb
 ·
  rw [if_neg hz] at h
  simp only [Option.some.injEq, Prod.mk.injEq] at h
  obtain ⟨rfl, rfl⟩ := h
  have hne : (e != 0) = true := by simpa using hz
  clear hz
  go_enter Try.func59, Try.ntmps59
  go_wp2_with (first | (go_at_call 68; rw [← HW.out]; refine HOP.out.mono ?_; rintro e' w3 ⟨rfl, hb⟩; have HB3 := Aside0.mk (below_step HB2.out hb); have G3 := Aside0.mk (blk_below G2.out hb); have k0 := blkc G3.out 0 (.int .i64 a0_0) rfl; have k1 := blkc G3.out 1 (.slice A0_1 l0_1.length c0_1) rfl; clear hb))
  go_ret2
  exact ⟨_, rfl, Kd.R_nil _ _ _ _ _, HB3.out⟩
end

/-! ### slices_DeleteFunc_key_keys_key_keys: function 56 -/
theorem slices_DeleteFunc_key_keys_key_keys.row_open {w : World} {base : Nat} {v : Value} {l : List S70} (h : k70.R 70 w base (fun _ => True) v l) (hx : l ≠ []) :
  ∃ g cap cur, v = .slice (some ⟨g, 0, none⟩) l.length cap ∧ base ≤ g ∧ l.length ≤ cap ∧ cur.size = cap * 6 ∧ w.heap[g]? = some (.cells cur 70 (0, 0)) := by
 obtain ⟨hok, inner, ho, hr⟩ := h
 rcases ho.2 with ⟨_, h0⟩ | ⟨g, cap, cur, rfl, hg, hh, hnc, hcm, hcs, ht⟩
 ·
  exact absurd (List.length_eq_zero_iff.1 h0) hx
 ·
  exact ⟨g, cap, cur, rfl, hg, hnc, hcs, hh⟩
theorem slices_DeleteFunc_key_keys_key_keys.clear {w : World} {g i n c : Nat} {cur : Array Value} (ty : TypeId) (hb : w.heap[g]? = some (.cells cur 70 (0, 0))) (hn : 0 < n) (hfit : (i + n) * 6 ≤ cur.size) :
  (Builtin.clear_ #[65] ty #[.slice (some ⟨g, i * 6, none⟩) n c]).run Try.prog w = .ok (.tuple #[]) (w.setCells g (i * 6) (Builtin.zeroCells (Value.agg #[.int .i64 0, .int .i64 0, .int .i64 0, .int .i64 0, .int .i64 0, .int .i64 0]).cells n).toList) := by
 have hv : (zeroValue 70).run Try.prog w = .ok (.agg #[.int .i64 0, .int .i64 0, .int .i64 0, .int .i64 0, .int .i64 0, .int .i64 0]) w := by kernel_rfl
 have hl : (Builtin.zeroCells (Value.agg #[.int .i64 0, .int .i64 0, .int .i64 0, .int .i64 0, .int .i64 0, .int .i64 0]).cells n).toList.length = n * 6 := by simp [Builtin.zeroCells, Value.cells]
 have hst := run_storeCells_cells (P := Try.prog) g (i * 6) (Builtin.zeroCells (Value.agg #[.int .i64 0, .int .i64 0, .int .i64 0, .int .i64 0, .int .i64 0, .int .i64 0]).cells n).toList 0 w (fun j hj => by
  rw [blk_cell hb]
  have : i * 6 + 0 + j < cur.size := by rw [hl] at hj; omega
  rw [Array.getElem?_eq_getElem this]; rfl) (fun j hj => blk_frozen hb _) (fun v hv => by
  simp only [Builtin.zeroCells, Value.cells, Array.toList_map, List.mem_map] at hv
  obtain ⟨q, _, rfl⟩ := hv
  have hq := Nat.mod_lt q (show 0 < 6 by omega)
  have e6 : (#[.int .i64 0, .int .i64 0, .int .i64 0, .int .i64 0, .int .i64 0, .int .i64 0] : Array Value).size = 6 := rfl
  rw [e6]
  generalize q % 6 = m at hq
  match m, hq with
  | 0, _ => rfl
  | 1, _ => rfl
  | 2, _ => rfl
  | 3, _ => rfl
  | 4, _ => rfl
  | 5, _ => rfl)
 simp only [Nat.add_zero] at hst
 obtain ⟨m, rfl⟩ : ∃ m, n = m + 1 := ⟨n - 1, by omega⟩
 simp [Builtin.clear_, run_underlying Try.underlying65, hv, hst]
theorem slices_DeleteFunc_key_keys_key_keys.cells {w : World} {base g n cap : Nat} {l : List S70} (h : k70.R 70 w base (fun _ => True) (.slice (some ⟨g, 0, none⟩) n cap) l) (j : Int) (h0 : 0 ≤ j) (h1 : j < (l.length : Int)) :
  w.cell? ⟨g, j.toNat * 6, none⟩ = some (.int .i64 (rd_T70 l j).f0) ∧ w.cell? ⟨g, j.toNat * 6 + 1, none⟩ = some (.int .i64 (rd_T70 l j).f1) ∧ w.cell? ⟨g, j.toNat * 6 + 2, none⟩ = some (.int .i64 (rd_T70 l j).f2) ∧ w.cell? ⟨g, j.toNat * 6 + 3, none⟩ = some (.int .i64 (rd_T70 l j).f3) ∧ w.cell? ⟨g, j.toNat * 6 + 4, none⟩ = some (.int .i64 (rd_T70 l j).f4) ∧ w.cell? ⟨g, j.toNat * 6 + 5, none⟩ = some (.int .i64 (rd_T70 l j).f5) := by
 obtain ⟨ad, ea, m⟩ := at_T70 (Kd.R_reads' h).2.2 j h0 h1
 cases ea
 have e : (⟨g, 0, none⟩ : Addr).add (j.toNat * 6) = ⟨g, j.toNat * 6, none⟩ := by
  unfold Addr.add
  split
  ·
   simp_all
  ·
   simp
 rw [e] at m
 exact m
theorem slices_DeleteFunc_key_keys_key_keys.cells_all {w : World} {base g n cap : Nat} {l : List S70} (h : k70.R 70 w base (fun _ => True) (.slice (some ⟨g, 0, none⟩) n cap) l) (j : Int) (h0 : 0 ≤ j) (h1 : j < (l.length : Int)) :
  ∀ (q : Nat) (u : Value), ([.int .i64 (rd_T70 l j).f0, .int .i64 (rd_T70 l j).f1, .int .i64 (rd_T70 l j).f2, .int .i64 (rd_T70 l j).f3, .int .i64 (rd_T70 l j).f4, .int .i64 (rd_T70 l j).f5] : List Value)[q]? = some u → w.cell? ⟨g, j.toNat * 6 + q, none⟩ = some u := by
 obtain ⟨m0, m1, m2, m3, m4, m5⟩ := slices_DeleteFunc_key_keys_key_keys.cells h j h0 h1
 intro q u hq
 match q, hq with
 | 0, hq => rw [← Option.some.inj hq]; exact m0
 | 1, hq => rw [← Option.some.inj hq]; exact m1
 | 2, hq => rw [← Option.some.inj hq]; exact m2
 | 3, hq => rw [← Option.some.inj hq]; exact m3
 | 4, hq => rw [← Option.some.inj hq]; exact m4
 | 5, hq => rw [← Option.some.inj hq]; exact m5
 | m + 6, hq => simp at hq
theorem slices_DeleteFunc_key_keys_key_keys.ne_row {w : World} {base g n cap gb : Nat} {bc : Array Value} {l : List S70} (h : k70.R 70 w base (fun _ => True) (.slice (some ⟨g, 0, none⟩) n cap) l) (hg : w.heap[gb]? = some (.cells bc 24 (0, 0))) : gb ≠ g := by
 rintro rfl
 exact Kd.R_ne h hg (by decide) rfl
theorem slices_DeleteFunc_key_keys_key_keys.C_out {w : World} {g m : Nat} {l : List S70} {vs : List Value} (h : Kd.C k70 w (some ⟨g, 0, none⟩) m l) : Kd.C k70 (w.setCells g (m * 6) vs) (some ⟨g, 0, none⟩) m l := by
 obtain ⟨h1, h2, h3⟩ := h
 refine ⟨h1, h2, fun hm => ?_⟩
 obtain ⟨ad, e, h4⟩ := h3 hm
 cases e
 refine ⟨_, rfl, fun j p hj => ?_⟩
 obtain ⟨c, hc1, hc2, hc3⟩ := h4 j p hj
 have hc1' : c.length = 6 := hc1
 refine ⟨c, hc1, ?_, fun q u hq => ?_⟩
 ·
  obtain rfl := k70_open hc2
  exact k70_mk _ _
 ·
  rw [World.cell?_setCells_out]
  ·
   exact hc3 q u hq
  ·
   intro _ _
   left
   have hj2 : j < l.length := (List.getElem?_eq_some_iff.1 hj).1
   have hq2 : q < c.length := (List.getElem?_eq_some_iff.1 hq).1
   have e : ((⟨g, 0, none⟩ : Addr).add (j * k70.sz + q)).off = j * 6 + q := by
    show ((⟨g, 0, none⟩ : Addr).add (j * 6 + q)).off = _
    unfold Addr.add
    split <;> simp_all
   rw [e]
   omega
theorem slices_DeleteFunc_key_keys_key_keys.set_below {B g : Nat} {w0 : World} (hb : B ≤ g) : ∀ (vs : List Value) (o : Nat) (w : World), Below B w0 w → Below B w0 (w.setCells g o vs)
 | [], _, _, h => h
 | v :: r, o, w, h => slices_DeleteFunc_key_keys_key_keys.set_below hb r (o + 1) _ (h.setCell (by exact hb) v)
theorem slices_DeleteFunc_key_keys_key_keys.set_other {g b : Nat} (hb : b ≠ g) : ∀ (vs : List Value) (o : Nat) (w : World), (w.setCells g o vs).heap[b]? = w.heap[b]?
 | [], _, _ => rfl
 | v :: r, o, w => (slices_DeleteFunc_key_keys_key_keys.set_other hb r (o + 1) _).trans (Below.heap_setCell w ⟨g, o, none⟩ v b hb)
def slices_DeleteFunc_key_keys_key_keys.kept (p : S70 → Bool) (l : List S70) : List S70 := l.filter fun x => !p x
theorem slices_DeleteFunc_key_keys_key_keys.kept_snoc (p : S70 → Bool) (l : List S70) (x : S70) : slices_DeleteFunc_key_keys_key_keys.kept p (l ++ [x]) = if p x = true then slices_DeleteFunc_key_keys_key_keys.kept p l else slices_DeleteFunc_key_keys_key_keys.kept p l ++ [x] := by
 unfold slices_DeleteFunc_key_keys_key_keys.kept
 rw [List.filter_append]
 by_cases h : p x = true <;> simp [h]
theorem slices_DeleteFunc_key_keys_key_keys.take_rd {l : List S70} {j : Int} (h0 : 0 ≤ j) (h1 : j < (l.length : Int)) : l.take (j + 1).toNat = l.take j.toNat ++ [rd_T70 l j] ∧ l.drop j.toNat = rd_T70 l j :: l.drop (j + 1).toNat := by
 have h : j.toNat < l.length := by omega
 rw [show (j + 1).toNat = j.toNat + 1 by omega]
 have e : rd_T70 l j = l[j.toNat] := by simp [rd_T70, List.getD_eq_getElem?_getD, h]
 rw [e]
 exact ⟨List.take_succ_eq_append_getElem h, List.drop_eq_getElem_cons h⟩
def slices_DeleteFunc_key_keys_key_keys.Inv (p : S70 → Bool) (l row : List S70) (i j : Int) : Prop :=
 0 ≤ i ∧ i < j ∧ j ≤ l.length ∧ row.length = l.length ∧ row.take i.toNat = slices_DeleteFunc_key_keys_key_keys.kept p (l.take j.toNat) ∧ row.drop j.toNat = l.drop j.toNat
theorem slices_DeleteFunc_key_keys_key_keys.Inv.len {p : S70 → Bool} {l row : List S70} {i j : Int} (h : slices_DeleteFunc_key_keys_key_keys.Inv p l row i j) : (slices_DeleteFunc_key_keys_key_keys.kept p (l.take j.toNat)).length = i.toNat := by
 obtain ⟨h1, h2, h3, h4, h5, h6⟩ := h
 rw [← h5, List.length_take]; omega
theorem slices_DeleteFunc_key_keys_key_keys.Inv.at {p : S70 → Bool} {l row : List S70} {i j : Int} (h : slices_DeleteFunc_key_keys_key_keys.Inv p l row i j) (hj : j < (l.length : Int)) : rd_T70 row j = rd_T70 l j := by
 obtain ⟨h1, h2, h3, h4, h5, h6⟩ := h
 have e1 := (slices_DeleteFunc_key_keys_key_keys.take_rd (l := row) (j := j) (by omega) (by omega)).2
 have e2 := (slices_DeleteFunc_key_keys_key_keys.take_rd (l := l) (j := j) (by omega) hj).2
 rw [e1, e2] at h6
 exact (List.cons.inj h6).1
theorem slices_DeleteFunc_key_keys_key_keys.Inv.skip {p : S70 → Bool} {l row : List S70} {i j : Int} (h : slices_DeleteFunc_key_keys_key_keys.Inv p l row i j) (hj : j < (l.length : Int)) (hp : p (rd_T70 l j) = true) : slices_DeleteFunc_key_keys_key_keys.Inv p l row i (j + 1) := by
 obtain ⟨h1, h2, h3, h4, h5, h6⟩ := h
 have e1 := (slices_DeleteFunc_key_keys_key_keys.take_rd (l := row) (j := j) (by omega) (by omega)).2
 have e2 := slices_DeleteFunc_key_keys_key_keys.take_rd (l := l) (j := j) (by omega) hj
 refine ⟨h1, by omega, by omega, h4, ?_, ?_⟩
 ·
  rw [e2.1, slices_DeleteFunc_key_keys_key_keys.kept_snoc, if_pos hp, h5]
 ·
  rw [e1, e2.2] at h6
  exact (List.cons.inj h6).2
theorem slices_DeleteFunc_key_keys_key_keys.Inv.keep {p : S70 → Bool} {l row : List S70} {i j : Int} (h : slices_DeleteFunc_key_keys_key_keys.Inv p l row i j) (hj : j < (l.length : Int)) (hp : p (rd_T70 l j) = false) : slices_DeleteFunc_key_keys_key_keys.Inv p l (row.set i.toNat (rd_T70 l j)) (i + 1) (j + 1) := by
 obtain ⟨h1, h2, h3, h4, h5, h6⟩ := h
 have e1 := (slices_DeleteFunc_key_keys_key_keys.take_rd (l := row) (j := j) (by omega) (by omega)).2
 have e2 := slices_DeleteFunc_key_keys_key_keys.take_rd (l := l) (j := j) (by omega) hj
 refine ⟨by omega, by omega, by omega, by rw [List.length_set]; exact h4, ?_, ?_⟩
 ·
  rw [e2.1, slices_DeleteFunc_key_keys_key_keys.kept_snoc, if_neg (by rw [hp]; decide), ← h5, show (i + 1).toNat = i.toNat + 1 by omega, List.take_succ_eq_append_getElem (by rw [List.length_set]; omega), List.take_set_of_le (by omega)]
  simp
 ·
  rw [List.drop_set_of_lt (by omega)]
  rw [e1, e2.2] at h6
  exact (List.cons.inj h6).2
set_option maxHeartbeats 8000000 in
set_option maxRecDepth 100000 in
theorem slices_DeleteFunc_key_keys_key_keys.del (c : Nat) (cs : Array Value) (p : S70 → Bool) (gb : Nat) (bc : Array Value) (w0 w : World) (v : Value) (l : List S70) (h : k70.R 70 w w0.heap.size (fun _ => True) v l) (hb0 : Below w0.heap.size w0 w) (hgb : w.heap[gb]? = some (.cells bc 24 (0, 0)))
  (he : ∀ (vs : Array Value) (W : World), (callFunc c vs).run Try.prog W = .ok (.enter c vs) W)
  (hf : ∀ (x : S70), x ∈ l → ∀ (W : World), W.heap[gb]? = some (.cells bc 24 (0, 0)) → Below w0.heap.size w0 W → Calls Try.prog c (#[.agg #[.int .i64 x.f0, .int .i64 x.f1, .int .i64 x.f2, .int .i64 x.f3, .int .i64 x.f4, .int .i64 x.f5]] ++ cs) W fun e w' => e = .returned (.bool (p x)) ∧ Below W.heap.size W w') (hl : l.length ≤ 1000000) :
  Calls Try.prog 56 #[v, .func (.func c) #[] cs] w fun e w' => ∃ A m c', e = .returned (.slice A m c') ∧ m = (slices_DeleteFunc_key_keys_key_keys.kept p l).length ∧ m ≤ c' ∧ Kd.C k70 w' A m (slices_DeleteFunc_key_keys_key_keys.kept p l) ∧ Below w0.heap.size w0 w' ∧ w'.heap[gb]? = some (.cells bc 24 (0, 0)) := by
 have HR := Aside0.mk h
 have HB := Aside0.mk hb0
 have HG := Aside0.mk hgb
 have HF := Aside0.mk hf
 obtain ⟨A0, c0, e0⟩ := Kd.R_slice h
 clear h hb0 hgb hf
 obtain ⟨ix, hix⟩ : ∃ ix, ix = Idx.idxFrom p l := ⟨_, rfl⟩
 have HIX := Aside0.mk hix
 by_cases hany : l.any p = true
 ·
  have hx : l ≠ [] := by rintro rfl; simp at hany
  obtain ⟨g, cap, cur, e1, hbase, hnc, hcs, hh⟩ := slices_DeleteFunc_key_keys_key_keys.row_open HR.out hx
  have hfi : l.findIdx p < l.length := List.findIdx_lt_length_of_exists (List.any_eq_true.1 hany)
  have hixv : ix = (l.findIdx p : Int) := by rw [hix]; simp [Idx.idxFrom, hany]
  have HI0 : Aside0 (slices_DeleteFunc_key_keys_key_keys.Inv p l l ix (ix + 1)) := ⟨by
   refine ⟨by omega, by omega, by omega, rfl, ?_, rfl⟩
   have e2 := slices_DeleteFunc_key_keys_key_keys.take_rd (l := l) (j := ix) (by omega) (by omega)
   have hp : p (rd_T70 l ix) = true := by
    have h3 : p l[l.findIdx p] = true := List.findIdx_getElem (w := hfi)
    have e : rd_T70 l ix = l[l.findIdx p] := by rw [hixv]; simp [rd_T70, List.getD_eq_getElem?_getD, hfi]
    rw [e]; exact h3
   rw [e2.1, slices_DeleteFunc_key_keys_key_keys.kept_snoc, if_pos hp]
   unfold slices_DeleteFunc_key_keys_key_keys.kept
   rw [List.filter_eq_self.2]
   intro x hx2
   obtain ⟨q, hq, rfl⟩ := List.mem_iff_getElem.1 hx2
   rw [List.length_take] at hq
   rw [List.getElem_take]
   have := List.not_of_lt_findIdx (p := p) (xs := l) (i := q) (by omega)
   simpa using this⟩
  have hne : (ix == -1) = false := by simp; omega
  have hb1 : ix ≤ 1000000 := by omega
  have hb2 : 0 ≤ ix := by omega
  rw [e1] at e0
  subst e1
  injection e0 with eA _ ec
  have HBASE := Aside0.mk hbase
  have HCAP := Aside0.mk hnc
  clear eA ec hany hx hfi hixv hix hcs hh hbase
  go_enter Try.func56, Try.ntmps56
  go_wp2_with (go_at_call 91; refine (key_play.index c cs p _ _ l _ (Kd.R_reads' HR.out).2.2 HCAP.out he (fun x hx W hb => HF.out x hx W (blk_below HG.out hb) (below_step HB.out hb))).mono ?_; rintro e w1 ⟨rfl, hb⟩; have HB1 := Aside0.mk (below_step HB.out hb); have HG1 := Aside0.mk (blk_below HG.out hb); have HR1 := Aside0.mk (Kd.R_below HR.out hb); clear hb; rw [← HIX.out])
  go_loopg [5, 6] (l.length - (ix + 1).toNat) (fun kq v5 v6 w' => ∃ (i j : Int) (row : List S70), v5 = .int .i64 i ∧ v6 = .int .i64 j ∧ Aside0 (slices_DeleteFunc_key_keys_key_keys.Inv p l row i j) ∧ Aside0 (kq = l.length - j.toNat) ∧ Aside0 (k70.R 70 w' w0.heap.size (fun _ => True) (.slice (some ⟨g, 0, none⟩) l.length cap) row) ∧ Aside0 (Below w0.heap.size w0 w') ∧ Aside0 (w'.heap[gb]? = some (.cells bc 24 (0, 0))))
  case atStart => exact ⟨ix, ix + 1, l, rfl, rfl, HI0, ⟨rfl⟩, HR1, HB1, HG1⟩
  case round =>
   clear HI0 HR1 HB1 HG1 HR HB HG HIX hne hb1 hb2
   obtain ⟨i, j, row, rfl, rfl, HI, HK, HR, HB, HG⟩ := hrel
   have i1 : 0 ≤ i := HI.out.1
   have i2 : i ≤ 1000000 := by have := HI.out.2.1; have := HI.out.2.2.1; omega
   have j1 : 0 ≤ j := by have := HI.out.2.1; omega
   have j2 : j ≤ 1000000 := by have := HI.out.2.2.1; omega
   by_cases hlt : j < (l.length : Int)
   ·
    have t1 : decide (j < (l.length : Int)) = true := decide_eq_true hlt
    obtain ⟨x, hx⟩ : ∃ x, x = rd_T70 l j := ⟨_, rfl⟩
    have hjr : j < (row.length : Int) := by rw [HI.out.2.2.2.1]; exact hlt
    have hil : i < (l.length : Int) := by have := HI.out.2.1; omega
    have hmem : x ∈ l := by
     have h : j.toNat < l.length := by omega
     rw [hx, show rd_T70 l j = l[j.toNat] by simp [rd_T70, List.getD_eq_getElem?_getD, h]]
     exact List.getElem_mem h
    obtain ⟨m0, m1, m2, m3, m4, m5⟩ := slices_DeleteFunc_key_keys_key_keys.cells HR.out j j1 hjr
    rw [HI.out.at hlt, ← hx] at m0 m1 m2 m3 m4 m5
    have HX := Aside0.mk hx
    have HMEM := Aside0.mk hmem
    have HLT := Aside0.mk hlt
    have HIL := Aside0.mk hil
    have hb1' : Below wr.heap.size wr (wr.alloc (.cells #[.int .i64 x.f0, .int .i64 x.f1, .int .i64 x.f2, .int .i64 x.f3, .int .i64 x.f4, .int .i64 x.f5] 70)) := below_alloc (Below.refl _ _) _
    have B7 : Aside0 ((wr.alloc (.cells #[.int .i64 x.f0, .int .i64 x.f1, .int .i64 x.f2, .int .i64 x.f3, .int .i64 x.f4, .int .i64 x.f5] 70)).heap[wr.heap.size]? = some (.cells #[.int .i64 x.f0, .int .i64 x.f1, .int .i64 x.f2, .int .i64 x.f3, .int .i64 x.f4, .int .i64 x.f5] 70 (0, 0))) := ⟨blk_new wr _⟩
    have HG2 := Aside0.mk (blk_below HG.out hb1')
    have HB2 := Aside0.mk (below_step HB.out hb1')
    have HR2 := Aside0.mk (Kd.R_below HR.out hb1')
    have j1' := eq_true j1
    have j2' := eq_true hlt
    clear hlt hjr hmem hx hb1' hil
    cases hp : p x with
    | true =>
     have HP := Aside0.mk hp
     clear hp
     go_wp2_with (go_simp; refine (HF.out x HMEM.out _ HG2.out HB2.out).mono ?_; rintro e w2 ⟨rfl, hb⟩; have HB3 := Aside0.mk (below_step HB2.out hb); have HG3 := Aside0.mk (blk_below HG2.out hb); have HR3 := Aside0.mk (Kd.R_below HR2.out hb); clear hb; rw [HP.out])
     go_roundg (l.length - (j + 1).toNat)
     case measure => have := HK.out; have := HLT.out; omega
     case rel =>
      have hw : wrap64 (j + 1) = j + 1 := by unfold wrap64; omega
      exact ⟨i, j + 1, row, rfl, by first | rfl | rw [hw], ⟨HI.out.skip HLT.out (by rw [← HX.out]; exact HP.out)⟩, ⟨rfl⟩, HR3, HB3, HG3⟩
    | false =>
     have HP := Aside0.mk hp
     clear hp
     have i3 := eq_true i1
     have i4 := eq_true HIL.out
     go_wp2_with (first | (go_simp; refine (HF.out x HMEM.out _ HG2.out HB2.out).mono ?_; rintro e w2 ⟨rfl, hb⟩; have HB3 := Aside0.mk (below_step HB2.out hb); have HG3 := Aside0.mk (blk_below HG2.out hb); have HR3 := Aside0.mk (Kd.R_below HR2.out hb); obtain ⟨z0, z1, z2, z3, z4, z5⟩ := bc6 (blk_below B7.out hb); clear hb; rw [HP.out]) | ((with_reducible refine gate_store (t := 70) (p := 33) (v := .tmp 32) rfl ?_); refine Kd.R_store k70 (w0 := w0) w0.heap.size rfl rfl 70 (.tmp 33) (.tmp 32) rfl 70 (g := g) (n := l.length) (cap := cap) (o' := i.toNat * 6) i 0 row x (.agg #[.int .i64 x.f0, .int .i64 x.f1, .int .i64 x.f2, .int .i64 x.f3, .int .i64 x.f4, .int .i64 x.f5]) [.int .i64 x.f0, .int .i64 x.f1, .int .i64 x.f2, .int .i64 x.f3, .int .i64 x.f4, .int .i64 x.f5] [.int .i64 (rd_T70 row i).f0, .int .i64 (rd_T70 row i).f1, .int .i64 (rd_T70 row i).f2, .int .i64 (rd_T70 row i).f3, .int .i64 (rd_T70 row i).f4, .int .i64 (rd_T70 row i).f5] (fun _ => True) (fun _ => False) rfl rfl rfl rfl (by kernel_rfl) (by intro q hq; simp at hq; rcases hq with rfl | rfl | rfl | rfl | rfl | rfl <;> rfl) HR3.out HI.out.1 HIL.out rfl (slices_DeleteFunc_key_keys_key_keys.cells_all HR3.out i HI.out.1 (by rw [HI.out.2.2.2.1]; exact HIL.out)) (show 0 + 6 ≤ 6 by omega) (k70_mkM _ _ _ _) (fun _ hk => hk.elim) HB3.out ?_; intro w3 ho hb hg; have HR4 := Aside0.mk ho; have HB4 := Aside0.mk hb; have HG4 := Aside0.mk (blk_grown HG3.out hg (by intro e; injection e with e; exact slices_DeleteFunc_key_keys_key_keys.ne_row HR3.out HG3.out e)); clear ho hb hg))
     go_roundg (l.length - (j + 1).toNat)
     case measure => have := HK.out; have := HLT.out; omega
     case rel =>
      have hw : wrap64 (j + 1) = j + 1 := by unfold wrap64; omega
      have hw2 : wrap64 (i + 1) = i + 1 := by unfold wrap64; omega
      exact ⟨i + 1, j + 1, row.set i.toNat x, by first | rfl | rw [hw2], by first | rfl | rw [hw], ⟨by rw [HX.out]; exact HI.out.keep HLT.out (by rw [← HX.out]; exact HP.out)⟩, ⟨rfl⟩, HR4, HB4, HG4⟩
   ·
    have t1 : decide (j < (l.length : Int)) = false := decide_eq_false hlt
    have hje : j = l.length := by have := HI.out.2.2.1; omega
    have hil : i < (l.length : Int) := by have := HI.out.2.1; omega
    have hk : row.take i.toNat = slices_DeleteFunc_key_keys_key_keys.kept p l := by
     have := HI.out.2.2.2.2.1
     rw [hje, Int.toNat_natCast, List.take_length] at this
     exact this
    have hkl : (slices_DeleteFunc_key_keys_key_keys.kept p l).length = i.toNat := by
     rw [← hk, List.length_take]
     have := HI.out.2.2.2.1
     omega
    have hx : l ≠ [] := by rintro rfl; simp at hil; omega
    have hrow : row ≠ [] := by
     have := HI.out.2.2.2.1
     intro e; rw [e] at this; exact hx (List.length_eq_zero_iff.1 this.symm)
    obtain ⟨g', cap', cur, e1, hbase, hnc, hcs, hh⟩ := slices_DeleteFunc_key_keys_key_keys.row_open HR.out hrow
    injection e1 with ea en ec
    injection ea with ea
    injection ea with ea
    subst ea
    subst ec
    clear en
    have hnl : l.length ≤ cap := HCAP.out
    have hcl := fun ty => slices_DeleteFunc_key_keys_key_keys.clear (w := wr) (g := g) (i := i.toNat) (n := l.length - i.toNat) (c := cap - i.toNat) (cur := cur) ty hh (by omega) (by have := HI.out.2.2.2.1; omega)
    have hCP : Kd.C k70 wr (some ⟨g, 0, none⟩) i.toNat (slices_DeleteFunc_key_keys_key_keys.kept p l) := by
     have h1 := Kd.C_take (m := i.toNat) (Kd.R_reads' HR.out).2.2 (by have := HI.out.2.2.2.1; omega)
     rw [hk, hkl] at h1
     exact h1
    obtain ⟨ZL, hZL⟩ : ∃ ZL, ZL = (Builtin.zeroCells (Value.agg #[.int .i64 0, .int .i64 0, .int .i64 0, .int .i64 0, .int .i64 0, .int .i64 0]).cells (l.length - i.toNat)).toList := ⟨_, rfl⟩
    rw [← hZL] at hcl
    have hCW : Aside0 (Kd.C k70 (wr.setCells g (i.toNat * 6) ZL) (some ⟨g, 0, none⟩) i.toNat (slices_DeleteFunc_key_keys_key_keys.kept p l)) := ⟨slices_DeleteFunc_key_keys_key_keys.C_out hCP⟩
    have HBW : Aside0 (Below w0.heap.size w0 (wr.setCells g (i.toNat * 6) ZL)) := ⟨slices_DeleteFunc_key_keys_key_keys.set_below HBASE.out _ _ _ HB.out⟩
    have HGW : Aside0 ((wr.setCells g (i.toNat * 6) ZL).heap[gb]? = some (.cells bc 24 (0, 0))) := ⟨(slices_DeleteFunc_key_keys_key_keys.set_other (slices_DeleteFunc_key_keys_key_keys.ne_row HR.out HG.out) _ _ _).trans HG.out⟩
    have HKL := Aside0.mk hkl
    have HIL := Aside0.mk hil
    have i3 := eq_true i1
    have i4 := eq_true (show i ≤ (l.length : Int) by omega)
    have i5 : (cap = i.toNat) = False := eq_false (by omega)
    have i6 := eq_true (show i ≤ (cap : Int) by omega)
    clear hje hil hk hkl hx hrow hcs hh hCP hZL hlt HR HB HG HI HK hnc
    go_wp2
    go_ret
    exact ⟨some ⟨g, 0, none⟩, i.toNat, cap, rfl, HKL.out.symm, by have := HIL.out; omega, hCW.out, HBW.out, HGW.out⟩
 ·
  have hall : slices_DeleteFunc_key_keys_key_keys.kept p l = l := by
   unfold slices_DeleteFunc_key_keys_key_keys.kept
   rw [List.filter_eq_self.2]
   intro x hx
   have := List.any_eq_false.1 (Bool.eq_false_iff.mpr hany) x hx
   simpa using this
  have hixv : ix = -1 := by rw [hix]; simp [Idx.idxFrom, hany]
  have HALL := Aside0.mk hall
  subst e0
  have HE : Aside0 (Idx.idxFrom p l = -1) := ⟨by rw [← hix]; exact hixv⟩
  clear hany hall hix hixv HIX
  go_enter Try.func56, Try.ntmps56
  go_wp2_with (go_at_call 91; refine (key_play.index c cs p _ _ l _ (Kd.R_reads' HR.out).2.2 (Kd.R_reads' HR.out).2.1 he (fun x hx W hb => HF.out x hx W (blk_below HG.out hb) (below_step HB.out hb))).mono ?_; rintro e w1 ⟨rfl, hb⟩; have HB1 := Aside0.mk (below_step HB.out hb); have HG1 := Aside0.mk (blk_below HG.out hb); have HR1 := Aside0.mk (Kd.R_below HR.out hb); clear hb; rw [HE.out])
  go_ret
  refine ⟨A0, l.length, c0, rfl, by rw [HALL.out], (Kd.R_reads' HR1.out).2.1, ?_, HB1.out, HG1.out⟩
  rw [HALL.out]
  exact (Kd.R_reads' HR1.out).2.2

/-! ### key_Stuck: function 18 -/
def key_Stuck.keep (k : Nat) (a0_0 : Int) (l0_1 : List S64) : List S70 → Option (List S70)
 | [] => some []
 | x :: t => (key_can.f k a0_0 l0_1 x.f0 x.f1 x.f2 x.f3 x.f4 x.f5).bind fun c => (key_Stuck.keep k a0_0 l0_1 t).bind fun r => some (if 0 < c.length then r else x :: r)
def key_Stuck.f (k : Nat) (a0_0 : Int) (l0_1 : List S64) (l1 : List Int) : Option (List (List Int) × Int) := (key_reach.f a0_0 l0_1 l1).bind fun (all, e) => (key_Stuck.keep k a0_0 l0_1 all).bind fun r => (key_lists.f k r a0_0).bind fun l => some (l, e)
def key_Stuck.p (k : Nat) (n : Int) (l : List S64) (x : S70) : Bool := match key_can.f k n l x.f0 x.f1 x.f2 x.f3 x.f4 x.f5 with
 | some r => decide (0 < r.length)
 | none => false
theorem key_Stuck.keep_eq {k : Nat} {n : Int} {l : List S64} : ∀ {all r : List S70}, key_Stuck.keep k n l all = some r → (∀ x ∈ all, ∃ c, key_can.f k n l x.f0 x.f1 x.f2 x.f3 x.f4 x.f5 = some c) ∧ r = slices_DeleteFunc_key_keys_key_keys.kept (key_Stuck.p k n l) all
 | [], r, h => by
  cases h
  exact ⟨fun x hx => (by cases hx), rfl⟩
 | x :: t, r, h => by
  rw [key_Stuck.keep] at h
  obtain ⟨c, hc, h⟩ := Option.bind_eq_some_iff.1 h
  obtain ⟨r', hr, h⟩ := Option.bind_eq_some_iff.1 h
  obtain ⟨h1, h2⟩ := key_Stuck.keep_eq hr
  refine ⟨fun y hy => ?_, ?_⟩
  ·
   rcases List.mem_cons.1 hy with rfl | hy
   ·
    exact ⟨c, hc⟩
   ·
    exact h1 y hy
  ·
   rw [← Option.some.inj h, h2]
   unfold slices_DeleteFunc_key_keys_key_keys.kept
   have hp : key_Stuck.p k n l x = decide (0 < c.length) := by rw [key_Stuck.p, hc]
   rw [List.filter_cons, hp]
   by_cases h0 : 0 < c.length
   ·
    rw [if_pos h0]; simp [h0]
   ·
    rw [if_neg h0]; simp [h0]
theorem key_Stuck.enter (vs : Array Value) (W : World) : (callFunc 57 vs).run Try.prog W = .ok (.enter 57 vs) W := enters_ Try.func57 (by kernel_rfl) (by kernel_rfl) vs W
set_option maxHeartbeats 4000000 in
set_option maxRecDepth 100000 in
theorem key_Stuck.clos (k : Nat) (n : Int) (A : Option Addr) (c : Nat) (l : List S64) (gb : Nat) (x : S70) (w : World) (hcap : w.heap[gb]? = some (.cells #[.int .i64 n, .slice A l.length c] 24 (0, 0))) (hr : Kd.C k64 w A l.length l) (hc : l.length ≤ c) (hx : ∃ r, key_can.f k n l x.f0 x.f1 x.f2 x.f3 x.f4 x.f5 = some r) :
  Calls Try.prog 57 #[.agg #[.int .i64 x.f0, .int .i64 x.f1, .int .i64 x.f2, .int .i64 x.f3, .int .i64 x.f4, .int .i64 x.f5], .pointer (some ⟨gb, 0, none⟩)] w fun e w' => e = .returned (.bool (key_Stuck.p k n l x)) ∧ Below w.heap.size w w' := by
 obtain ⟨r, hx⟩ := hx
 have hE : Aside0 (key_Stuck.p k n l x = decide (0 < r.length)) := ⟨by rw [key_Stuck.p, hx]⟩
 have HX := Aside0.mk hx
 have HR := Aside0.mk hr
 have HC := Aside0.mk hc
 obtain ⟨w0, hw0⟩ : ∃ w0, w0 = w.alloc (.cells #[.int .i64 x.f0, .int .i64 x.f1, .int .i64 x.f2, .int .i64 x.f3, .int .i64 x.f4, .int .i64 x.f5] 70) := ⟨_, rfl⟩
 have HB0 : Aside0 (Below w.heap.size w w0) := ⟨by rw [hw0]; exact below_alloc (Below.refl _ _) _⟩
 have HW := Aside0.mk hw0
 have k0 := fun o => blkc (blk_alloc hcap o) 0 (.int .i64 n) rfl
 have k1 := fun o => blkc (blk_alloc hcap o) 1 (.slice A l.length c) rfl
 have hu := Try.underlying24
 have hu2 := Try.underlying70
 clear hx hr hc hw0 hcap
 go_enter Try.func57, Try.ntmps57
 go_wp2_with (go_at_call 58; rw [← HW.out]; refine (key_can.calls k n A c l x.f0 x.f1 x.f2 x.f3 x.f4 x.f5 r _ (Kd.C_below HR.out HB0.out) HC.out HX.out).mono ?_; rintro e w1 ⟨v1, rfl, ho, hb⟩; obtain ⟨A1, c1, e1⟩ := Kd.R_slice ho; subst e1; have HB1 := Aside0.mk (below_step HB0.out hb); clear ho hb)
 go_ret
 exact ⟨by rw [hE.out]; rfl, HB1.out⟩
theorem key_Stuck.mono_keep (a0_0 : Int) (l0_1 : List S64) : ∀ (l : List S70) k, LeO (key_Stuck.keep k a0_0 l0_1 l) (key_Stuck.keep (k + 1) a0_0 l0_1 l)
 | [], _ => LeO.refl _
 | x :: t, k => by
  rw [key_Stuck.keep, key_Stuck.keep]
  exact LeO.bind (key_can.mono _ _ _ _ _ _ _ _ k) (fun _ => LeO.bind (key_Stuck.mono_keep a0_0 l0_1 t k) (fun _ => LeO.refl _))
theorem key_Stuck.mono : ∀ a0 a1 a2 k, LeO (key_Stuck.f k a0 a1 a2) (key_Stuck.f (k + 1) a0 a1 a2) := fun a0 a1 a2 k => by
 unfold key_Stuck.f
 refine LeO.bind (LeO.refl _) (fun p => ?_)
 exact LeO.bind (key_Stuck.mono_keep _ _ _ k) (fun _ => LeO.bind (key_lists.mono _ _ k) (fun _ => LeO.refl _))
set_option maxHeartbeats 8000000 in
set_option maxRecDepth 100000 in
theorem key_Stuck.calls (k : Nat) (a0_0 : Int) (A0_1 : Option Addr) (c0_1 : Nat) (l0_1 : List S64) (A1 : Option Addr) (c1 : Nat) (l1 : List Int) (r1 : List (List Int)) (r2 : Int) (w : World) (hr0_1 : Kd.C k64 w A0_1 l0_1.length l0_1) (hc0_1 : l0_1.length ≤ c0_1) (hr1 : Kd.C (Kd.int .i64) w A1 l1.length l1) (hc1 : l1.length ≤ c1) (h : key_Stuck.f k a0_0 l0_1 l1 = some (r1, r2)) :
  Calls Try.prog 18 #[.agg #[.int .i64 a0_0, .slice A0_1 l0_1.length c0_1], .slice A1 l1.length c1] w fun e w' => ∃ v0_ : Value, e = .returned (.tuple #[v0_, .int .i64 r2]) ∧ Kd.S (Kd.slice 3 (Kd.int .i64)) 25 w' w.heap.size (fun _ => True) v0_ r1 ∧ Below w.heap.size w w' := by
 have hu := Try.underlying24
 have HR := Aside0.mk hr0_1
 have HC := Aside0.mk hc0_1
 have HR1 := Aside0.mk hr1
 have HC1 := Aside0.mk hc1
 unfold key_Stuck.f at h
 obtain ⟨⟨all, e⟩, hre, h⟩ := Option.bind_eq_some_iff.1 h
 obtain ⟨kp, hkp, h⟩ := Option.bind_eq_some_iff.1 h
 obtain ⟨li, hli, h⟩ := Option.bind_eq_some_iff.1 h
 simp only [Option.some.injEq, Prod.mk.injEq] at h
 obtain ⟨rfl, rfl⟩ := h
 obtain ⟨hcan, rfl⟩ := key_Stuck.keep_eq hkp
 have HRE := Aside0.mk hre
 have HCAN := Aside0.mk hcan
 have HLI := Aside0.mk hli
 have HLEN := Aside0.mk (key_reach.len hre)
 obtain ⟨w1, hw1⟩ : ∃ W, W = w.alloc (.cells #[.int .i64 a0_0, .slice A0_1 l0_1.length c0_1] 24) := ⟨_, rfl⟩
 have HB1 : Aside0 (Below w.heap.size w w1) := ⟨by rw [hw1]; exact below_alloc (Below.refl _ _) _⟩
 have G1 : Aside0 (w1.heap[w.heap.size]? = some (.cells #[.int .i64 a0_0, .slice A0_1 l0_1.length c0_1] 24 (0, 0))) := ⟨by rw [hw1]; exact blk_new w _⟩
 have HW := Aside0.mk hw1
 clear hr0_1 hc0_1 hr1 hc1 hre hcan hli hkp hw1
 go_enter Try.func18, Try.ntmps18
 go_wp2_with (go_at_call 53; rw [← HW.out]; refine (key_reach.calls a0_0 A0_1 c0_1 l0_1 A1 c1 l1 all e _ (Kd.C_below HR.out HB1.out) HC.out (Kd.C_below HR1.out HB1.out) HC1.out HRE.out).mono ?_; rintro e' w2 ⟨v2, rfl, ho, hb⟩; have HB2 := Aside0.mk (below_step HB1.out hb); have G2 := Aside0.mk (blk_below G1.out hb); have HO2 := Aside0.mk (Kd.R_lower ho HB1.out.size); clear ho hb)
 refine start_ (n := 9) (S := fun w' => w'.cell? ⟨w.heap.size, 0, none⟩ = some (.int .i64 a0_0) ∧ w'.cell? ⟨w.heap.size, 1, none⟩ = some (.slice A0_1 l0_1.length c0_1)) (ds := []) #[false, false, false, false, false, false, false, false, false] (by kernel_rfl) rfl rfl ⟨blkc (blk_drew G2.out) 0 _ rfl, blkc (blk_drew G2.out) 1 _ rfl⟩ (fun hHeld => ?_)
 replace HB2 := Aside0.mk (below_drew1 HB2.out)
 replace G2 := Aside0.mk (blk_drew G2.out)
 replace HO2 := Aside0.mk (Kd.R_drew HO2.out)
 generalize w2.drew = w3 at HB2 G2 HO2 hHeld ⊢
 refine pst (i := 0) (N := some 14) (bz 9 1) (by kernel_rfl) ?_
 refine pst (i := 1) (N := some 15) (bz 9 3) (by kernel_rfl) ?_
 refine pst (i := 3) (N := some 17) (bz 9 11) (by kernel_rfl) ?_
 refine tst2 (i := 4) (N := some 18) (bz 9 27) (by kernel_rfl) hHeld ?_
 refine pst (i := 6) (N := some 20) (bz 9 91) (by kernel_rfl) ?_
 refine one_ (i := 2) (N := some 16) #[true, true, true, true, true, false, true, false, false] rfl rfl (by kernel_rfl) (by decide) (fun K hK => ?_)
 refine goes_ Try.func56 (by kernel_rfl) rfl #[v2, .func (.func 57) #[] #[.pointer (some ⟨w.heap.size, 0, none⟩)]] (by rfl) rfl rfl mapz ?_
 refine (slices_DeleteFunc_key_keys_key_keys.del 57 #[.pointer (some ⟨w.heap.size, 0, none⟩)] (key_Stuck.p k a0_0 l0_1) w.heap.size #[.int .i64 a0_0, .slice A0_1 l0_1.length c0_1] w _ v2 all HO2.out HB2.out G2.out key_Stuck.enter (fun x hx W hg hb => key_Stuck.clos k a0_0 A0_1 c0_1 l0_1 w.heap.size x W hg (Kd.C_below HR.out hb) HC.out (HCAN.out x hx)) (by have := HLEN.out; omega)).mono ?_
 rintro e' w4 ⟨A4, m4, c4, rfl, rfl, hm, hC, hb, hg⟩
 refine ⟨_, rfl, ?_⟩
 have HM := Aside0.mk hm
 have HC4 := Aside0.mk hC
 have HB4 := Aside0.mk hb
 have G4 := Aside0.mk hg
 clear hm hC hb hg
 refine hK.out _ _ ⟨blkc G4.out 0 _ rfl, blkc G4.out 1 _ rfl⟩ (fun hHeld => ?_)
 clear hK K
 refine norm_ (a' := ?_) ?_ ?_
 rotate_left
 ·
  show Act.put _ (some 16) _ = _
  simp only [Act.put, List.setIfInBounds_toArray, List.set_cons_zero, List.set_cons_succ, i64_w, i32_w]
  rfl
 refine one_ (i := 5) (N := some 19) #[true, true, true, true, true, true, true, false, false] rfl rfl (by kernel_rfl) (by decide) (fun K hK => ?_)
 refine goes_ Try.func54 (by kernel_rfl) rfl #[.slice A4 (slices_DeleteFunc_key_keys_key_keys.kept (key_Stuck.p k a0_0 l0_1) all).length c4, .int .i64 a0_0] (by rfl) rfl rfl mapz ?_
 refine (key_lists.calls k A4 c4 _ a0_0 li _ HC4.out HM.out HLI.out).mono ?_
 rintro e' w5 ⟨v5, rfl, ho, hb⟩
 refine ⟨_, rfl, ?_⟩
 have HB5 := Aside0.mk (below_step HB4.out hb)
 have G5 := Aside0.mk (blk_below G4.out hb)
 have HO5 := Aside0.mk (Kd.S_lower ho HB4.out.size)
 clear ho hb
 refine hK.out _ _ ⟨blkc G5.out 0 _ rfl, blkc G5.out 1 _ rfl⟩ (fun hHeld => ?_)
 clear hK K
 refine norm_ (a' := ?_) ?_ ?_
 rotate_left
 ·
  show Act.put _ (some 19) _ = _
  simp only [Act.put, List.setIfInBounds_toArray, List.set_cons_zero, List.set_cons_succ, i64_w, i32_w]
  rfl
 refine pst (i := 7) (N := some 4) (bz 9 255) (by kernel_rfl) ?_
 refine pst (i := 8) (N := some 5) (bz 9 511) (by kernel_rfl) ?_
 refine done_ (by kernel_rfl) ?_
 go_wp2
 go_ret2
 exact ⟨_, rfl, HO5.out, HB5.out⟩

/-! ### dropperlaw06_SameInts: function 27 -/
def dropperlaw06_SameInts.l0 : Nat → List Int → List Int → Int → Option (Bool)
 | 0, _, _, _ => none
 | k + 1, x0, x1, x5 => if x5 < (x0.length : Int) then (if 0 ≤ x5 then (if x5 < (x1.length : Int) then (if (rd x0 x5) = (rd x1 x5) then (dropperlaw06_SameInts.l0 k x0 x1 (wrap64 (x5 + 1))) else (some false)) else (none)) else (none)) else (some true)
def dropperlaw06_SameInts.f (k : Nat) (l0 : List Int) (l1 : List Int) : Option (Bool) := if (l0.length : Int) = (l1.length : Int) then (dropperlaw06_SameInts.l0 k l0 l1 0) else (some false)
theorem dropperlaw06_SameInts.mono_l : ∀ k, (∀ y0 y1 y2, LeO (dropperlaw06_SameInts.l0 k y0 y1 y2) (dropperlaw06_SameInts.l0 (k + 1) y0 y1 y2))
 | 0 => fun _ _ _ r h => by simp [dropperlaw06_SameInts.l0] at h
 | k + 1 => by
  have ih0 := dropperlaw06_SameInts.mono_l k
  ·
   intro y0 y1 y2
   unfold dropperlaw06_SameInts.l0
   repeat' first
   | (with_reducible exact ih0 _ _ _)
   | (with_reducible exact LeO.refl _)
   | (with_reducible exact LeO.none _)
   | (with_reducible refine LeO.ite ?_ ?_)
   | (with_reducible refine LeO.bind ?_ (fun _ => ?_))
   | exact ih0 _ _ _
   | exact LeO.none _
   | refine LeO.ite ?_ ?_
   | refine LeO.bind ?_ (fun _ => ?_)
theorem dropperlaw06_SameInts.mono : ∀ a0 a1 k, LeO (dropperlaw06_SameInts.f k a0 a1) (dropperlaw06_SameInts.f (k + 1) a0 a1) := by
 intro a0 a1 k
 have ih0 := dropperlaw06_SameInts.mono_l k
 unfold dropperlaw06_SameInts.f
 repeat' first
   | (with_reducible exact ih0 _ _ _)
   | (with_reducible exact LeO.refl _)
   | (with_reducible exact LeO.none _)
   | (with_reducible refine LeO.ite ?_ ?_)
   | (with_reducible refine LeO.bind ?_ (fun _ => ?_))
   | exact ih0 _ _ _
   | exact LeO.none _
   | refine LeO.ite ?_ ?_
   | refine LeO.bind ?_ (fun _ => ?_)
set_option maxHeartbeats 8000000 in
set_option maxRecDepth 100000 in
theorem dropperlaw06_SameInts.calls (k : Nat) (A0 : Option Addr) (c0 : Nat) (l0 : List Int) (A1 : Option Addr) (c1 : Nat) (l1 : List Int) (r : Bool) (w : World) (hr0 : Kd.C (Kd.int .i64) w A0 l0.length l0) (hc0 : l0.length ≤ c0) (hr1 : Kd.C (Kd.int .i64) w A1 l1.length l1) (hc1 : l1.length ≤ c1) (h : dropperlaw06_SameInts.f k l0 l1 = some r) :
  Calls Try.prog 27 #[.slice A0 l0.length c0, .slice A1 l1.length c1] w fun e w' => e = .returned (.bool r) ∧ Drawn0 w w' := by
 have HR0 := Aside0.mk hr0
 have HC0 := Aside0.mk hc0
 clear hr0 hc0
 have HR1 := Aside0.mk hr1
 have HC1 := Aside0.mk hc1
 clear hr1 hc1
 have H : (if (l0.length : Int) = (l1.length : Int) then (dropperlaw06_SameInts.l0 k l0 l1 0) else (some false)) = some r := h
 clear h
 by_cases c3 : (l0.length : Int) = (l1.length : Int)
 ·
  rw [if_pos c3] at H
  have c3b0 : ((l0.length : Int) == (l1.length : Int)) = true := beq_iff_eq.mpr c3
  have c3b1 : ((l0.length : Int) != (l1.length : Int)) = false := bne_eq_false_iff_eq.mpr c3
  have c3b2 : (l0.length == l1.length) = true := by first | simpa using c3 | (simp at c3 ⊢; omega)
  clear c3
  have H' := Aside0.mk H
  clear H
  go_enter Try.func27, Try.ntmps27
  go_wp2
  repeat (go_quiet (fail); try go_wp2)
  go_loopg [5] k (fun kq v5 w' => ∃ (x5_1 : Int), v5 = .int .i64 x5_1 ∧ Aside0 (dropperlaw06_SameInts.l0 kq l0 l1 x5_1 = some r) ∧ Aside0 (kq ≤ k) ∧ Drawn0 w w')
  case atStart => exact ⟨(0), rsz, H', ⟨Nat.le_refl _⟩, drz⟩
  case round =>
   clear H'
   (try clear c1); (try clear c2); (try clear p2); (try clear c3); (try clear c3b0); (try clear c3b1); (try clear c3b2)
   obtain ⟨x5_1, rfl, HA, HK1, ⟨m1, rfl⟩⟩ := hrel
   cases gk with
   | zero => exact absurd HA.out (by simp [dropperlaw06_SameInts.l0])
   | succ k1 =>
    have H := HA.out
    clear HA
    simp only [dropperlaw06_SameInts.l0] at H
    by_cases c4 : x5_1 < (l0.length : Int)
    ·
     rw [if_pos c4] at H
     have c4b0 : decide (x5_1 < (l0.length : Int)) = true := decide_eq_true c4
     clear c4
     by_cases c5 : 0 ≤ x5_1
     ·
      rw [if_pos c5] at H
      have c5b0 : decide (0 ≤ x5_1) = true := decide_eq_true c5
      clear c5
      by_cases c6 : x5_1 < (l1.length : Int)
      ·
       rw [if_pos c6] at H
       have c6b0 : decide (x5_1 < (l1.length : Int)) = true := decide_eq_true c6
       clear c6
       by_cases c7 : (rd l0 x5_1) = (rd l1 x5_1)
       ·
        rw [if_pos c7] at H
        have c7b0 : ((rd l0 x5_1) == (rd l1 x5_1)) = true := beq_iff_eq.mpr c7
        have c7b1 : ((rd l0 x5_1) != (rd l1 x5_1)) = false := bne_eq_false_iff_eq.mpr c7
        clear c7
        have H' := Aside0.mk H
        clear H
        have p146 : 0 ≤ (x5_1 : Int) := of_decide_eq_true asz
        have q146 : x5_1 < (l0.length : Int) := of_decide_eq_true asz
        obtain ⟨ad146, e146, hx146_0⟩ := Kd.at_int HR0.out x5_1 p146 q146
        cases e146
        replace p146 := eq_true p146
        replace q146 := eq_true q146
        have p147 : 0 ≤ (x5_1 : Int) := of_decide_eq_true asz
        have q147 : x5_1 < (l1.length : Int) := of_decide_eq_true asz
        obtain ⟨ad147, e147, hx147_0⟩ := Kd.at_int HR1.out x5_1 p147 q147
        cases e147
        replace p147 := eq_true p147
        replace q147 := eq_true q147
        go_wp2
        repeat (go_quiet (fail); try go_wp2)
        go_roundg k1
        case measure => have := HK1.out; omega
        case rel => exact ⟨(wrap64 (x5_1 + 1)), rsz, H', ⟨by have := HK1.out; omega⟩, drz⟩
       ·
        rw [if_neg c7] at H
        have c7b0 : ((rd l0 x5_1) == (rd l1 x5_1)) = false := beq_eq_false_iff_ne.mpr c7
        have c7b1 : ((rd l0 x5_1) != (rd l1 x5_1)) = true := bne_iff_ne.mpr c7
        obtain rfl := Option.some.inj H
        have p146 : 0 ≤ (x5_1 : Int) := of_decide_eq_true asz
        have q146 : x5_1 < (l0.length : Int) := of_decide_eq_true asz
        obtain ⟨ad146, e146, hx146_0⟩ := Kd.at_int HR0.out x5_1 p146 q146
        cases e146
        replace p146 := eq_true p146
        replace q146 := eq_true q146
        have p147 : 0 ≤ (x5_1 : Int) := of_decide_eq_true asz
        have q147 : x5_1 < (l1.length : Int) := of_decide_eq_true asz
        obtain ⟨ad147, e147, hx147_0⟩ := Kd.at_int HR1.out x5_1 p147 q147
        cases e147
        replace p147 := eq_true p147
        replace q147 := eq_true q147
        go_wp2
        repeat (go_quiet (fail); try go_wp2)
        go_ret
        exact ⟨by first | rfl | (simp; done) | (simp [*]; done), drz⟩
      ·
       rw [if_neg c6] at H
       exact absurd H (by simp)
     ·
      rw [if_neg c5] at H
      exact absurd H (by simp)
    ·
     rw [if_neg c4] at H
     have c4b0 : decide (x5_1 < (l0.length : Int)) = false := decide_eq_false c4
     clear c4
     obtain rfl := Option.some.inj H
     go_wp2
     repeat (go_quiet (fail); try go_wp2)
     go_ret
     exact ⟨by first | rfl | (simp; done) | (simp [*]; done), drz⟩
 ·
  rw [if_neg c3] at H
  have c3b0 : ((l0.length : Int) == (l1.length : Int)) = false := beq_eq_false_iff_ne.mpr c3
  have c3b1 : ((l0.length : Int) != (l1.length : Int)) = true := bne_iff_ne.mpr c3
  have c3b2 : (l0.length == l1.length) = false := by first | simpa using c3 | (simp at c3 ⊢; omega)
  obtain rfl := Option.some.inj H
  go_enter Try.func27, Try.ntmps27
  go_wp2
  repeat (go_quiet (fail); try go_wp2)
  go_ret
  exact ⟨by first | rfl | (simp; done) | (simp [*]; done), drz⟩

/-! ### key_weighed: function 64 -/
def key_weighed.f (a0_0 : Int) (l0_1 : List (S64)) (l1 : List Int) (l2 : List (List Int)) : Option (Int) := (key_open.f a0_0 l0_1 l2).bind fun t133 => (if t133 = 0 then ((key_isList.f l1 a0_0 (-20000) 20000).bind fun t134 => (if t134 = true then (some t133) else (some 2))) else (some t133))
set_option maxHeartbeats 8000000 in
set_option maxRecDepth 100000 in
theorem key_weighed.calls (a0_0 : Int) (A0_1 : Option Addr) (c0_1 : Nat) (l0_1 : List (S64)) (A1 : Option Addr) (c1 : Nat) (l1 : List Int) (A2 : Option Addr) (c2 : Nat) (l2 : List (List Int)) (r : Int) (w : World) (hr0_1 : Kd.C k64 w A0_1 l0_1.length l0_1) (hc0_1 : l0_1.length ≤ c0_1) (hr1 : Kd.C (Kd.int .i64) w A1 l1.length l1) (hc1 : l1.length ≤ c1) (hr2 : Kd.C (Kd.slice 3 (Kd.int .i64)) w A2 l2.length l2) (hc2 : l2.length ≤ c2) (h : key_weighed.f a0_0 l0_1 l1 l2 = some r) :
  Calls Try.prog 64 #[.agg #[.int .i64 a0_0, .slice A0_1 l0_1.length c0_1], .slice A1 l1.length c1, .slice A2 l2.length c2] w fun e w' => e = .returned (.int .i64 r) ∧ Below w.heap.size w w' := by
 have hu24 := Try.underlying24
 have HR0_1 := Aside0.mk hr0_1
 have HC0_1 := Aside0.mk hc0_1
 clear hr0_1 hc0_1
 have HR1 := Aside0.mk hr1
 have HC1 := Aside0.mk hc1
 clear hr1 hc1
 have HR2 := Aside0.mk hr2
 have HC2 := Aside0.mk hc2
 clear hr2 hc2
 have HB := Aside0.mk (Below.refl w.heap.size w)
 have H : ((key_open.f a0_0 l0_1 l2).bind fun t133 => (if t133 = 0 then ((key_isList.f l1 a0_0 (-20000) 20000).bind fun t134 => (if t134 = true then (some t133) else (some 2))) else (some t133))) = some r := h
 clear h
 replace H := Option.bind_eq_some_iff.mp H
 obtain ⟨t133, A40, H⟩ := H
 try dsimp only at H
 have A4 := Aside0.mk A40
 clear A40
 by_cases c5 : t133 = 0
 ·
  rw [if_pos c5] at H
  have c5b0 : (t133 == 0) = true := beq_iff_eq.mpr c5
  have c5b1 : (t133 != 0) = false := bne_eq_false_iff_eq.mpr c5
  clear c5
  replace H := Option.bind_eq_some_iff.mp H
  obtain ⟨t134, A60, H⟩ := H
  try dsimp only at H
  have A6 := Aside0.mk A60
  clear A60
  by_cases c7 : t134 = true
  ·
   subst c7
   rw [if_pos rfl] at H
   obtain rfl := Option.some.inj H
   go_enter Try.func64, Try.ntmps64
   go_wp2_with (first | ((with_reducible refine gate_dst (N := 3) rfl ?_); refine box_event ?hg (N := 3) ?hd (cs := #[.int .i64 a0_0, .slice A0_1 l0_1.length c0_1]) (t := 24) ?hr ?_; (case hd => rfl); (case hg => rfl); (case hr => first | (go_simp; done) | (go_simp; rfl)); intro gb132 hg w8 hbox hb; have BK132 := Aside0.mk (hbox); have GW132 := bsz (w := w) hg; have GE132 := GW132; replace HB := Aside0.mk (below_step bel hb); clear hb hbox hg; obtain ⟨hcz9_0, hcz9_1⟩ := bc2 BK132.out) | ((with_reducible refine gate_callee (f := 68) rfl ?_); refine goesL_ (some 10) rfl rfl Try.func68 (by kernel_rfl) rfl #[.agg #[.int .i64 a0_0, .slice A0_1 l0_1.length c0_1], .slice A2 l2.length c2] rfl mapz ?_; (with_reducible refine (key_open.calls a0_0 _ _ l0_1 _ _ l2 t133 _ (cbz HR0_1) HC0_1.out (cbz HR2) HC2.out A4.out).mono ?_); rintro e w10 ⟨rfl, hb⟩; refine ⟨_, rfl, ?_⟩; replace BK132 := Aside0.mk (blk_below (g := gb132) blkz hb); replace HB := Aside0.mk (below_step bel hb); clear hb; obtain ⟨hcz11_0, hcz11_1⟩ := bc2 BK132.out) | (go_at_call 69; (with_reducible refine (key_isList.calls _ _ l1 a0_0 (-20000) 20000 true _ (cbz HR1) HC1.out A6.out).mono ?_); rintro e w12 ⟨rfl, hb⟩; replace BK132 := Aside0.mk (blk_below (g := gb132) blkz hb); replace HB := Aside0.mk (below_step bel hb); clear hb))
   go_ret
   exact ⟨ezz, bel⟩
  ·
   replace c7 := Bool.eq_false_iff.mpr c7
   subst c7
   rw [if_neg (show ¬ (false = true) by decide)] at H
   obtain rfl := Option.some.inj H
   go_enter Try.func64, Try.ntmps64
   go_wp2_with (first | ((with_reducible refine gate_dst (N := 3) rfl ?_); refine box_event ?hg (N := 3) ?hd (cs := #[.int .i64 a0_0, .slice A0_1 l0_1.length c0_1]) (t := 24) ?hr ?_; (case hd => rfl); (case hg => rfl); (case hr => first | (go_simp; done) | (go_simp; rfl)); intro gb132 hg w13 hbox hb; have BK132 := Aside0.mk (hbox); have GW132 := bsz (w := w) hg; have GE132 := GW132; replace HB := Aside0.mk (below_step bel hb); clear hb hbox hg; obtain ⟨hcz14_0, hcz14_1⟩ := bc2 BK132.out) | ((with_reducible refine gate_callee (f := 68) rfl ?_); refine goesL_ (some 10) rfl rfl Try.func68 (by kernel_rfl) rfl #[.agg #[.int .i64 a0_0, .slice A0_1 l0_1.length c0_1], .slice A2 l2.length c2] rfl mapz ?_; (with_reducible refine (key_open.calls a0_0 _ _ l0_1 _ _ l2 t133 _ (cbz HR0_1) HC0_1.out (cbz HR2) HC2.out A4.out).mono ?_); rintro e w15 ⟨rfl, hb⟩; refine ⟨_, rfl, ?_⟩; replace BK132 := Aside0.mk (blk_below (g := gb132) blkz hb); replace HB := Aside0.mk (below_step bel hb); clear hb; obtain ⟨hcz16_0, hcz16_1⟩ := bc2 BK132.out) | (go_at_call 69; (with_reducible refine (key_isList.calls _ _ l1 a0_0 (-20000) 20000 false _ (cbz HR1) HC1.out A6.out).mono ?_); rintro e w17 ⟨rfl, hb⟩; replace BK132 := Aside0.mk (blk_below (g := gb132) blkz hb); replace HB := Aside0.mk (below_step bel hb); clear hb))
   go_ret
   exact ⟨ezz, bel⟩
 ·
  rw [if_neg c5] at H
  have c5b0 : (t133 == 0) = false := beq_eq_false_iff_ne.mpr c5
  have c5b1 : (t133 != 0) = true := bne_iff_ne.mpr c5
  obtain rfl := Option.some.inj H
  go_enter Try.func64, Try.ntmps64
  go_wp2_with (first | ((with_reducible refine gate_dst (N := 3) rfl ?_); refine box_event ?hg (N := 3) ?hd (cs := #[.int .i64 a0_0, .slice A0_1 l0_1.length c0_1]) (t := 24) ?hr ?_; (case hd => rfl); (case hg => rfl); (case hr => first | (go_simp; done) | (go_simp; rfl)); intro gb132 hg w18 hbox hb; have BK132 := Aside0.mk (hbox); have GW132 := bsz (w := w) hg; have GE132 := GW132; replace HB := Aside0.mk (below_step bel hb); clear hb hbox hg; obtain ⟨hcz19_0, hcz19_1⟩ := bc2 BK132.out) | ((with_reducible refine gate_callee (f := 68) rfl ?_); refine goesL_ (some 10) rfl rfl Try.func68 (by kernel_rfl) rfl #[.agg #[.int .i64 a0_0, .slice A0_1 l0_1.length c0_1], .slice A2 l2.length c2] rfl mapz ?_; (with_reducible refine (key_open.calls a0_0 _ _ l0_1 _ _ l2 t133 _ (cbz HR0_1) HC0_1.out (cbz HR2) HC2.out A4.out).mono ?_); rintro e w20 ⟨rfl, hb⟩; refine ⟨_, rfl, ?_⟩; replace BK132 := Aside0.mk (blk_below (g := gb132) blkz hb); replace HB := Aside0.mk (below_step bel hb); clear hb))
  go_ret
  exact ⟨ezz, bel⟩

/-! ### key_sum: function 66 -/
def key_sum.l0 : Nat → List Int → Int → List Int → Int → Int → Option (Int)
 | 0, _, _, _, _, _ => none
 | k + 1, x1, x4, x7, x8, x9 => if x9 < x8 then (if 0 ≤ x9 then (if x9 < (x7.length : Int) then (if x9 < (x1.length : Int) then (key_sum.l0 k x1 (wrap64 (x4 + (wrap64 ((rd x7 x9) * (rd x1 x9))))) x7 x8 (wrap64 (x9 + 1))) else (none)) else (none)) else (none)) else (some x4)
def key_sum.f (k : Nat) (l0 : List Int) (l1 : List Int) : Option (Int) := key_sum.l0 k l1 0 l0 (l0.length : Int) 0
theorem key_sum.mono_l : ∀ k, (∀ y0 y1 y2 y3 y4, LeO (key_sum.l0 k y0 y1 y2 y3 y4) (key_sum.l0 (k + 1) y0 y1 y2 y3 y4))
 | 0 => fun _ _ _ _ _ r h => by simp [key_sum.l0] at h
 | k + 1 => by
  have ih0 := key_sum.mono_l k
  ·
   intro y0 y1 y2 y3 y4
   unfold key_sum.l0
   repeat' first
   | (with_reducible exact ih0 _ _ _ _ _)
   | (with_reducible exact LeO.refl _)
   | (with_reducible exact LeO.none _)
   | (with_reducible refine LeO.ite ?_ ?_)
   | (with_reducible refine LeO.bind ?_ (fun _ => ?_))
   | exact ih0 _ _ _ _ _
   | exact LeO.none _
   | refine LeO.ite ?_ ?_
   | refine LeO.bind ?_ (fun _ => ?_)
theorem key_sum.mono : ∀ a0 a1 k, LeO (key_sum.f k a0 a1) (key_sum.f (k + 1) a0 a1) := by
 intro a0 a1 k
 have ih0 := key_sum.mono_l k
 unfold key_sum.f
 repeat' first
   | (with_reducible exact ih0 _ _ _ _ _)
   | (with_reducible exact LeO.refl _)
   | (with_reducible exact LeO.none _)
   | (with_reducible refine LeO.ite ?_ ?_)
   | (with_reducible refine LeO.bind ?_ (fun _ => ?_))
   | exact ih0 _ _ _ _ _
   | exact LeO.none _
   | refine LeO.ite ?_ ?_
   | refine LeO.bind ?_ (fun _ => ?_)
set_option maxHeartbeats 8000000 in
set_option maxRecDepth 100000 in
theorem key_sum.calls (k : Nat) (A0 : Option Addr) (c0 : Nat) (l0 : List Int) (A1 : Option Addr) (c1 : Nat) (l1 : List Int) (r : Int) (w : World) (hr0 : Kd.C (Kd.int .i64) w A0 l0.length l0) (hc0 : l0.length ≤ c0) (hr1 : Kd.C (Kd.int .i64) w A1 l1.length l1) (hc1 : l1.length ≤ c1) (h : key_sum.f k l0 l1 = some r) :
  Calls Try.prog 66 #[.slice A0 l0.length c0, .slice A1 l1.length c1] w fun e w' => e = .returned (.int .i64 r) ∧ Drawn0 w w' := by
 have HR0 := Aside0.mk hr0
 have HC0 := Aside0.mk hc0
 clear hr0 hc0
 have HR1 := Aside0.mk hr1
 have HC1 := Aside0.mk hc1
 clear hr1 hc1
 have H : (key_sum.l0 k l1 0 l0 (l0.length : Int) 0) = some r := h
 clear h
 have H' := Aside0.mk H
 clear H
 go_enter Try.func66, Try.ntmps66
 go_wp2
 go_loopg [4, 9] k (fun kq v4 v9 w' => ∃ (x4_1 : Int) (x9_1 : Int), v4 = .int .i64 x4_1 ∧ v9 = .int .i64 x9_1 ∧ Aside0 (key_sum.l0 kq l1 x4_1 l0 (l0.length : Int) x9_1 = some r) ∧ Aside0 (kq ≤ k) ∧ Drawn0 w w')
 case atStart => exact ⟨(0), (0), rsz, rsz, H', ⟨Nat.le_refl _⟩, drz⟩
 case round =>
  clear H'
  (try clear c1); (try clear p2)
  obtain ⟨x4_1, x9_1, rfl, rfl, HA, HK1, ⟨m1, rfl⟩⟩ := hrel
  cases gk with
  | zero => exact absurd HA.out (by simp [key_sum.l0])
  | succ k1 =>
   have H := HA.out
   clear HA
   simp only [key_sum.l0] at H
   by_cases c3 : x9_1 < (l0.length : Int)
   ·
    rw [if_pos c3] at H
    have c3b0 : decide (x9_1 < (l0.length : Int)) = true := decide_eq_true c3
    clear c3
    by_cases c4 : 0 ≤ x9_1
    ·
     rw [if_pos c4] at H
     have c4b0 : decide (0 ≤ x9_1) = true := decide_eq_true c4
     clear c4
     by_cases c5 : x9_1 < (l0.length : Int)
     ·
      rw [if_pos c5] at H
      have c5b0 : decide (x9_1 < (l0.length : Int)) = true := decide_eq_true c5
      clear c5
      by_cases c6 : x9_1 < (l1.length : Int)
      ·
       rw [if_pos c6] at H
       have c6b0 : decide (x9_1 < (l1.length : Int)) = true := decide_eq_true c6
       clear c6
       have H' := Aside0.mk H
       clear H
       have p135 : 0 ≤ (x9_1 : Int) := of_decide_eq_true asz
       have q135 : x9_1 < (l0.length : Int) := of_decide_eq_true asz
       obtain ⟨ad135, e135, hx135_0⟩ := Kd.at_int HR0.out x9_1 p135 q135
       cases e135
       replace p135 := eq_true p135
       replace q135 := eq_true q135
       have p136 : 0 ≤ (x9_1 : Int) := of_decide_eq_true asz
       have q136 : x9_1 < (l1.length : Int) := of_decide_eq_true asz
       obtain ⟨ad136, e136, hx136_0⟩ := Kd.at_int HR1.out x9_1 p136 q136
       cases e136
       replace p136 := eq_true p136
       replace q136 := eq_true q136
       go_wp2
       go_roundg k1
       case measure => have := HK1.out; omega
       case rel => exact ⟨(wrap64 (x4_1 + (wrap64 ((rd l0 x9_1) * (rd l1 x9_1))))), (wrap64 (x9_1 + 1)), rsz, rsz, H', ⟨by have := HK1.out; omega⟩, drz⟩
      ·
       rw [if_neg c6] at H
       exact absurd H (by simp)
     ·
      rw [if_neg c5] at H
      exact absurd H (by simp)
    ·
     rw [if_neg c4] at H
     exact absurd H (by simp)
   ·
    rw [if_neg c3] at H
    have c3b0 : decide (x9_1 < (l0.length : Int)) = false := decide_eq_false c3
    clear c3
    obtain rfl := Option.some.inj H
    go_wp2
    go_ret
    exact ⟨by first | rfl | (simp; done) | (simp [*]; done), drz⟩

/-! ### key_holds: function 65 -/
def key_holds.go (k : Nat) (l1 : List Int) : List S64 → Option Bool
 | [] => some true
 | x :: t => (key_sum.f k l1 x.f0).bind fun a => (key_sum.f k l1 x.f1).bind fun b => (key_holds.go k l1 t).bind fun r => some (decide (a = b) && r)
def key_holds.f (k : Nat) (a0_0 : Int) (l0_1 : List S64) (l1 : List Int) : Option Bool := key_holds.go k l1 l0_1
def key_holds.bad (k : Nat) (l1 : List Int) (x : S64) : Bool := !(key_sum.f k l1 x.f0 == key_sum.f k l1 x.f1)
theorem key_holds.go_some {k : Nat} {l1 : List Int} : ∀ {l : List S64} {r : Bool}, key_holds.go k l1 l = some r → ∀ x ∈ l, ∃ a b, key_sum.f k l1 x.f0 = some a ∧ key_sum.f k l1 x.f1 = some b
 | [], _, _ => fun x hx => by cases hx
 | y :: t, r, h => fun x hx => by
  rw [key_holds.go] at h
  obtain ⟨a, ha, h⟩ := Option.bind_eq_some_iff.1 h
  obtain ⟨b, hb, h⟩ := Option.bind_eq_some_iff.1 h
  obtain ⟨r', hr, h⟩ := Option.bind_eq_some_iff.1 h
  rcases List.mem_cons.1 hx with rfl | hx
  ·
   exact ⟨a, b, ha, hb⟩
  ·
   exact key_holds.go_some hr x hx
theorem key_holds.go_any {k : Nat} {l1 : List Int} : ∀ {l : List S64} {r : Bool}, key_holds.go k l1 l = some r → r = !(l.any (key_holds.bad k l1))
 | [], _, h => by cases h; rfl
 | y :: t, r, h => by
  rw [key_holds.go] at h
  obtain ⟨a, ha, h⟩ := Option.bind_eq_some_iff.1 h
  obtain ⟨b, hb, h⟩ := Option.bind_eq_some_iff.1 h
  obtain ⟨r', hr, h⟩ := Option.bind_eq_some_iff.1 h
  rw [← Option.some.inj h, key_holds.go_any hr, List.any_cons, key_holds.bad, ha, hb]
  by_cases e : a = b
  ·
   simp [e]
  ·
   simp [e]
theorem key_holds.enter (vs : Array Value) (W : World) : (callFunc 93 vs).run Try.prog W = .ok (.enter 93 vs) W := enters_ Try.func93 (by kernel_rfl) (by kernel_rfl) vs W
set_option maxHeartbeats 4000000 in
set_option maxRecDepth 100000 in
theorem key_holds.clos (k : Nat) (g : Nat) (A1 : Option Addr) (c1 : Nat) (l1 : List Int) (x : S64) (w : World) (hcap : w.heap[g]? = some (.cells #[.slice A1 l1.length c1] 25 (0, 0))) (hr1 : (Kd.int .i64).C w A1 l1.length l1) (hc1 : l1.length ≤ c1) (Aq : Option Addr) (cq : Nat) (Aw : Option Addr) (cw : Nat) (hq : x.f0.length ≤ cq ∧ (Kd.int .i64).C w Aq x.f0.length x.f0 ∧ x.f1.length ≤ cw ∧ (Kd.int .i64).C w Aw x.f1.length x.f1)
  (hs : ∃ a b, key_sum.f k l1 x.f0 = some a ∧ key_sum.f k l1 x.f1 = some b) :
  Calls Try.prog 93 #[.agg #[.slice Aq x.f0.length cq, .slice Aw x.f1.length cw], .pointer (some ⟨g, 0, none⟩)] w fun e w' => e = .returned (.bool (key_holds.bad k l1 x)) ∧ Below w.heap.size w w' := by
 obtain ⟨q1, q2, q3, q4⟩ := hq
 obtain ⟨a, b, ha, hb⟩ := hs
 have hE : Aside0 (key_holds.bad k l1 x = !(a == b)) := ⟨by rw [key_holds.bad, ha, hb]; by_cases e : a = b <;> simp [e]⟩
 have Q1 := Aside0.mk q1
 have Q2 := Aside0.mk q2
 have Q3 := Aside0.mk q3
 have Q4 := Aside0.mk q4
 have V1 := Aside0.mk ha
 have V2 := Aside0.mk hb
 have HR1 := Aside0.mk hr1
 have HC1 := Aside0.mk hc1
 obtain ⟨w0, hw0⟩ : ∃ w0, w0 = w.alloc (.cells #[.slice Aq x.f0.length cq, .slice Aw x.f1.length cw] 64) := ⟨_, rfl⟩
 have HB0 : Aside0 (Below w.heap.size w w0) := ⟨by rw [hw0]; exact below_alloc (Below.refl _ _) _⟩
 have B0 : Aside0 (w0.heap[w.heap.size]? = some (.cells #[.slice Aq x.f0.length cq, .slice Aw x.f1.length cw] 64 (0, 0))) := ⟨by rw [hw0]; exact blk_new w _⟩
 have G0 : Aside0 (w0.heap[g]? = some (.cells #[.slice A1 l1.length c1] 25 (0, 0))) := ⟨by rw [hw0]; exact blk_alloc hcap _⟩
 have hu := Try.underlying64
 clear q1 q2 q3 q4 ha hb hr1 hc1 hcap
 go_enter Try.func93, Try.ntmps93
 go_wp2
 change Code.wp _ _ _ _ (w.alloc (.cells #[.slice Aq x.f0.length cq, .slice Aw x.f1.length cw] 64))
 rw [← hw0]
 clear hw0
 refine start_ (n := 10) (S := fun w' => w'.cell? ⟨g, 0, none⟩ = some (.slice A1 l1.length c1) ∧ w'.cell? ⟨w.heap.size, 0, none⟩ = some (.slice Aq x.f0.length cq) ∧ w'.cell? ⟨w.heap.size, 1, none⟩ = some (.slice Aw x.f1.length cw)) (ds := []) #[false, false, false, false, false, false, false, false, false, false] (by kernel_rfl) rfl rfl ⟨blkc (blk_drew G0.out) 0 _ rfl, blkc (blk_drew B0.out) 0 _ rfl, blkc (blk_drew B0.out) 1 _ rfl⟩ (fun hHeld => ?_)
 replace HB0 := Aside0.mk (below_drew1 HB0.out)
 replace B0 := Aside0.mk (blk_drew B0.out)
 replace G0 := Aside0.mk (blk_drew G0.out)
 generalize w0.drew = w1 at HB0 B0 G0 hHeld ⊢
 refine tst3 (i := 0) (N := some 4) (bz 10 1) (by kernel_rfl) hHeld ?_
 refine pst (i := 1) (N := some 5) (bz 10 3) (by kernel_rfl) ?_
 refine tst3 (i := 2) (N := some 6) (bz 10 7) (by kernel_rfl) hHeld ?_
 refine tst3 (i := 4) (N := some 8) (bz 10 23) (by kernel_rfl) hHeld ?_
 refine pst (i := 5) (N := some 9) (bz 10 55) (by kernel_rfl) ?_
 refine tst3 (i := 6) (N := some 10) (bz 10 119) (by kernel_rfl) hHeld ?_
 refine one_ (i := 3) (N := some 7) #[true, true, true, true, true, true, true, false, false, false] rfl rfl (by kernel_rfl) (by decide) (fun K hK => ?_)
 refine goes_ Try.func66 (by kernel_rfl) rfl #[.slice A1 l1.length c1, .slice Aq x.f0.length cq] (by rfl) rfl rfl mapz ?_
 refine (key_sum.calls k A1 c1 l1 Aq cq x.f0 a _ (Kd.C_below HR1.out HB0.out) HC1.out (Kd.C_below Q2.out HB0.out) Q1.out V1.out).mono ?_
 rintro e w' ⟨rfl, ⟨n1, rfl⟩⟩
 refine ⟨_, rfl, ?_⟩
 refine hK.out _ _ ⟨(blkc (blk_drewN G0.out _) 0 _ rfl), (blkc (blk_drewN B0.out _) 0 _ rfl), (blkc (blk_drewN B0.out _) 1 _ rfl)⟩ (fun hHeld => ?_)
 clear hK K
 refine norm_ (a' := ?_) ?_ ?_
 rotate_left
 ·
  show Act.put _ (some 7) _ = _
  simp only [Act.put, List.setIfInBounds_toArray, List.set_cons_zero, List.set_cons_succ, i64_w, i32_w]
  rfl
 refine one_ (i := 7) (N := some 11) #[true, true, true, true, true, true, true, true, false, false] rfl rfl (by kernel_rfl) (by decide) (fun K hK => ?_)
 refine goes_ Try.func66 (by kernel_rfl) rfl #[.slice A1 l1.length c1, .slice Aw x.f1.length cw] (by rfl) rfl rfl mapz ?_
 refine (key_sum.calls k A1 c1 l1 Aw cw x.f1 b _ (Kd.C_drewN (Kd.C_below HR1.out HB0.out) _) HC1.out (Kd.C_drewN (Kd.C_below Q4.out HB0.out) _) Q3.out V2.out).mono ?_
 rintro e w' ⟨rfl, ⟨n2, rfl⟩⟩
 refine ⟨_, rfl, ?_⟩
 refine hK.out _ _ ⟨(blkc (blk_drewN (blk_drewN G0.out _) _) 0 _ rfl), (blkc (blk_drewN (blk_drewN B0.out _) _) 0 _ rfl), (blkc (blk_drewN (blk_drewN B0.out _) _) 1 _ rfl)⟩ (fun hHeld => ?_)
 clear hK K
 refine norm_ (a' := ?_) ?_ ?_
 rotate_left
 ·
  show Act.put _ (some 11) _ = _
  simp only [Act.put, List.setIfInBounds_toArray, List.set_cons_zero, List.set_cons_succ, i64_w, i32_w]
  rfl
 refine pst (i := 8) (N := some 12) (bz 10 511) (by kernel_rfl) ?_
 refine pst (i := 9) (N := some 3) (bz 10 1023) (by kernel_rfl) ?_
 refine done_ (by kernel_rfl) ?_
 go_wp2
 go_ret
 exact ⟨by rw [hE.out]; rfl, pw_below_drewN (pw_below_drewN HB0.out _) _⟩
theorem key_holds.mono_go (l1 : List Int) : ∀ (l : List S64) k, LeO (key_holds.go k l1 l) (key_holds.go (k + 1) l1 l)
 | [], _ => LeO.refl _
 | x :: t, k => by
  rw [key_holds.go, key_holds.go]
  exact LeO.bind (key_sum.mono _ _ k) (fun _ => LeO.bind (key_sum.mono _ _ k) (fun _ => LeO.bind (key_holds.mono_go l1 t k) (fun _ => LeO.refl _)))
theorem key_holds.mono : ∀ a0 a1 a2 k, LeO (key_holds.f k a0 a1 a2) (key_holds.f (k + 1) a0 a1 a2) := fun a0 a1 a2 k => key_holds.mono_go a2 a1 k
set_option maxHeartbeats 8000000 in
set_option maxRecDepth 100000 in
theorem key_holds.calls (k : Nat) (a0_0 : Int) (A0_1 : Option Addr) (c0_1 : Nat) (l0_1 : List S64) (A1 : Option Addr) (c1 : Nat) (l1 : List Int) (r : Bool) (w : World) (hr0_1 : Kd.C k64 w A0_1 l0_1.length l0_1) (hc0_1 : l0_1.length ≤ c0_1) (hr1 : Kd.C (Kd.int .i64) w A1 l1.length l1) (hc1 : l1.length ≤ c1) (h : key_holds.f k a0_0 l0_1 l1 = some r) :
  Calls Try.prog 65 #[.agg #[.int .i64 a0_0, .slice A0_1 l0_1.length c0_1], .slice A1 l1.length c1] w fun e w' => e = .returned (.bool r) ∧ Below w.heap.size w w' := by
 have hu := Try.underlying24
 have HR := Aside0.mk hr0_1
 have HC := Aside0.mk hc0_1
 have HR1 := Aside0.mk hr1
 have HC1 := Aside0.mk hc1
 have hg : key_holds.go k l1 l0_1 = some r := h
 have HG := Aside0.mk hg
 have hrr : r = !(l0_1.any (key_holds.bad k l1)) := key_holds.go_any hg
 have HRR := Aside0.mk hrr
 obtain ⟨w2, hw2⟩ : ∃ W, W = (w.alloc (.cells #[.int .i64 a0_0, .slice A0_1 l0_1.length c0_1] 24)).alloc (.cells #[.slice A1 l1.length c1] 25) := ⟨_, rfl⟩
 have s1 : (w.alloc (.cells #[.int .i64 a0_0, .slice A0_1 l0_1.length c0_1] 24)).heap.size = w.heap.size + 1 := Array.size_push ..
 have HB2 : Aside0 (Below w.heap.size w w2) := ⟨by rw [hw2]; exact below_alloc (below_alloc (Below.refl _ _) _) _⟩
 have L2 : Aside0 (w2.heap[w.heap.size + 1]? = some (.cells #[.slice A1 l1.length c1] 25 (0, 0))) := ⟨by rw [hw2, ← s1]; exact blk_new _ _⟩
 have HW := Aside0.mk hw2
 clear hr0_1 hc0_1 hr1 hc1 h hg hrr s1 hw2
 obtain ⟨v, hv⟩ : ∃ v, l0_1.any (key_holds.bad k l1) = v := ⟨_, rfl⟩
 have HV := Aside0.mk hv
 clear hv
 go_enter Try.func65, Try.ntmps65
 go_wp2_with (go_at_call 79; rw [← HW.out]; (refine (slices_ContainsFunc_api_Turn_api_Turn.contains 93 #[.pointer (some ⟨w.heap.size + 1, 0, none⟩)] (key_holds.bad k l1) A0_1 c0_1 l0_1 _ (Kd.C_below HR.out HB2.out) HC.out key_holds.enter (fun x hx W hb Aq cq Aw cw hq => key_holds.clos k (w.heap.size + 1) A1 c1 l1 x W (blk_below L2.out hb) (Kd.C_below (Kd.C_below HR1.out HB2.out) hb) HC1.out Aq cq Aw cw hq (key_holds.go_some HG.out x hx))).mono ?_); rintro e w3 ⟨rfl, hb⟩; have HB3 := Aside0.mk (below_step HB2.out hb); clear hb; rw [HV.out])
 go_ret
 exact ⟨by rw [HRR.out, HV.out]; rfl, HB3.out⟩

/-! ### slices_Min_int_int: function 67 -/
def slices_Min_int_int.f (l0 : List Int) : Option Int := if l0 = [] then none else some (Lib.minOf l0)
set_option maxHeartbeats 8000000 in
set_option maxRecDepth 100000 in
theorem slices_Min_int_int.calls (A0 : Option Addr) (c0 : Nat) (l0 : List Int) (r : Int) (w : World) (hr0 : Kd.C (Kd.int .i64) w A0 l0.length l0) (hc0 : l0.length ≤ c0) (h : slices_Min_int_int.f l0 = some r) :
  Calls Try.prog 67 #[.slice A0 l0.length c0] w fun e w' => e = .returned (.int .i64 r) ∧ Below w.heap.size w w' := by
 unfold slices_Min_int_int.f at h
 by_cases hl : l0 = []
 ·
  rw [if_pos hl] at h; cases h
 rw [if_neg hl] at h
 obtain rfl := Option.some.inj h
 have hpos : 0 < l0.length := List.length_pos_iff.2 hl
 have hcell : ∀ j, j < l0.length → ∃ ad, A0 = some ad ∧ w.cell? (ad.add j) = some (.int .i64 (l0.getD j 0)) := by
  intro j hj
  obtain ⟨ad, e1, hx⟩ := Kd.at_int hr0 (j : Int) (by omega) (by omega)
  refine ⟨ad, e1, ?_⟩
  rw [Int.toNat_natCast] at hx
  rw [hx]; simp [rd]
 obtain ⟨ad, rfl, h0⟩ := hcell 0 hpos
 have hsp : ad.spot = none := by
  have e : ad.add 0 = ad := by simp [Addr.add]
  rw [e] at h0
  unfold World.cell? at h0
  split at h0
  ·
   split at h0
   ·
    cases h0
   ·
    rename_i hs; simpa using hs
  ·
   cases h0
 obtain ⟨b, off, sp⟩ := ad
 simp only at hsp
 subst hsp
 refine (Try.slices_Min_int b off l0.length c0 l0 w hpos (Nat.le_refl _) hr0.2.1 (fun j hj => ?_)).mono ?_
 ·
  obtain ⟨ad, e1, hx⟩ := hcell j hj
  cases e1
  have e : (⟨b, off, none⟩ : Addr).add j = ⟨b, off + j, none⟩ := by unfold Addr.add; split <;> simp_all
  rw [e] at hx
  exact hx
 ·
  rintro e w' ⟨rfl, rfl⟩
  rw [List.take_of_length_le (Nat.le_refl _)]
  exact ⟨rfl, Below.refl _ _⟩

/-! ### key_Proves: function 23 -/
def key_Proves.f (k : Nat) (a0_0 : Int) (l0_1 : List (S64)) (l1 : List Int) (l2 : List Int) (l3 : List Int) : Option (Bool × Int) := (key_weighed.f a0_0 l0_1 l1 (([l2, l3] : List (List Int)))).bind fun t141 => (if t141 = 0 then ((key_holds.f k a0_0 l0_1 l1).bind fun t142 => (if t142 = true then ((slices_Min_int_int.f l1).bind fun t143 => (if t143 ≥ 0 then ((key_sum.f k l1 l3).bind fun t144 => ((key_sum.f k l1 l2).bind fun t145 => (some (decide (t144 > t145), 0)))) else (some (false, 0)))) else (some (false, 0)))) else (some (false, t141)))
theorem key_Proves.mono : ∀ a0 a1 a2 a3 a4 k, LeO (key_Proves.f k a0 a1 a2 a3 a4) (key_Proves.f (k + 1) a0 a1 a2 a3 a4) := by
 intro a0 a1 a2 a3 a4 k
 unfold key_Proves.f
 repeat' first
   | (with_reducible exact key_holds.mono _ _ _ _)
   | (with_reducible exact key_sum.mono _ _ _)
   | (with_reducible exact LeO.refl _)
   | (with_reducible exact LeO.none _)
   | (with_reducible refine LeO.ite ?_ ?_)
   | (with_reducible refine LeO.bind ?_ (fun _ => ?_))
   | exact key_holds.mono _ _ _ _
   | exact key_sum.mono _ _ _
   | exact LeO.none _
   | refine LeO.ite ?_ ?_
   | refine LeO.bind ?_ (fun _ => ?_)
set_option maxHeartbeats 8000000 in
set_option maxRecDepth 100000 in
theorem key_Proves.calls (k : Nat) (a0_0 : Int) (A0_1 : Option Addr) (c0_1 : Nat) (l0_1 : List (S64)) (A1 : Option Addr) (c1 : Nat) (l1 : List Int) (P2_ : Nat → Prop) (A2 : Option Addr) (c2 : Nat) (l2 : List Int) (P3_ : Nat → Prop) (A3 : Option Addr) (c3 : Nat) (l3 : List Int) (r1 : Bool) (r2 : Int) (w : World) (hr0_1 : Kd.C k64 w A0_1 l0_1.length l0_1) (hc0_1 : l0_1.length ≤ c0_1) (hr1 : Kd.C (Kd.int .i64) w A1 l1.length l1) (hc1 : l1.length ≤ c1) (hs2 : Kd.V (Kd.int .i64) 3 w w.heap.size (fun k_ => P2_ k_) (.slice A2 l2.length c2) l2) (hs3 : Kd.V (Kd.int .i64) 3 w w.heap.size (fun k_ => P3_ k_) (.slice A3 l3.length c3) l3) (h : key_Proves.f k a0_0 l0_1 l1 l2 l3 = some (r1, r2)) :
  Calls Try.prog 23 #[.agg #[.int .i64 a0_0, .slice A0_1 l0_1.length c0_1], .slice A1 l1.length c1, .slice A2 l2.length c2, .slice A3 l3.length c3] w fun e w' => e = .returned (.tuple #[.bool r1, .int .i64 r2]) ∧ Below w.heap.size w w' := by
 have hu24 := Try.underlying24
 have HR0_1 := Aside0.mk hr0_1
 have HC0_1 := Aside0.mk hc0_1
 clear hr0_1 hc0_1
 have HR1 := Aside0.mk hr1
 have HC1 := Aside0.mk hc1
 clear hr1 hc1
 have HO2 := Aside0.mk (show Kd.V (Kd.int .i64) 3 w w.heap.size (fun k_ => ((P2_ k_ ∨ P3_ k_) ∨ w.heap.size ≤ k_)) (.slice A2 l2.length c2) l2 from Kd.V_mono hs2 (fun k_ hk => .inl (.inl hk)))
 have HO3 := Aside0.mk (show Kd.V (Kd.int .i64) 3 w w.heap.size (fun k_ => ((P2_ k_ ∨ P3_ k_) ∨ w.heap.size ≤ k_)) (.slice A3 l3.length c3) l3 from Kd.V_mono hs3 (fun k_ hk => .inl (.inr hk)))
 have HB := Aside0.mk (Below.refl w.heap.size w)
 have H : ((key_weighed.f a0_0 l0_1 l1 (([l2, l3] : List (List Int)))).bind fun t141 => (if t141 = 0 then ((key_holds.f k a0_0 l0_1 l1).bind fun t142 => (if t142 = true then ((slices_Min_int_int.f l1).bind fun t143 => (if t143 ≥ 0 then ((key_sum.f k l1 l3).bind fun t144 => ((key_sum.f k l1 l2).bind fun t145 => (some (decide (t144 > t145), 0)))) else (some (false, 0)))) else (some (false, 0)))) else (some (false, t141)))) = some (r1, r2) := h
 clear h
 obtain ⟨y138, hy138⟩ : ∃ y_ : List (List Int), y_ = (([l2, l3] : List (List Int))) := ⟨_, rfl⟩
 replace H : ((key_weighed.f a0_0 l0_1 l1 y138).bind fun t141 => (if t141 = 0 then ((key_holds.f k a0_0 l0_1 l1).bind fun t142 => (if t142 = true then ((slices_Min_int_int.f l1).bind fun t143 => (if t143 ≥ 0 then ((key_sum.f k l1 l3).bind fun t144 => ((key_sum.f k l1 l2).bind fun t145 => (some (decide (t144 > t145), 0)))) else (some (false, 0)))) else (some (false, 0)))) else (some (false, t141)))) = some (r1, r2) := by first | (rw [hy138]; with_reducible exact H) | (have H2_ := (Option.bind_some _ _).symm.trans H; rw [hy138]; with_reducible exact H2_) | (have H2_ := (Option.bind_some _ _).symm.trans H; with_reducible exact H2_) | with_reducible exact H | (rw [hy138]; exact H) | exact H
 have Ny138 := Aside0.mk hy138
 clear hy138
 replace H := Option.bind_eq_some_iff.mp H
 obtain ⟨t141, A50, H⟩ := H
 try dsimp only at H
 have A5 := Aside0.mk A50
 clear A50
 by_cases c6 : t141 = 0
 ·
  rw [if_pos c6] at H
  have c6b0 : (t141 == 0) = true := beq_iff_eq.mpr c6
  have c6b1 : (t141 != 0) = false := bne_eq_false_iff_eq.mpr c6
  clear c6
  replace H := Option.bind_eq_some_iff.mp H
  obtain ⟨t142, A70, H⟩ := H
  try dsimp only at H
  have A7 := Aside0.mk A70
  clear A70
  by_cases c8 : t142 = true
  ·
   subst c8
   rw [if_pos rfl] at H
   replace H := Option.bind_eq_some_iff.mp H
   obtain ⟨t143, A90, H⟩ := H
   try dsimp only at H
   have A9 := Aside0.mk A90
   clear A90
   by_cases c10 : t143 ≥ 0
   ·
    rw [if_pos c10] at H
    have c10b0 : decide (0 ≤ t143) = true := decide_eq_true c10
    clear c10
    replace H := Option.bind_eq_some_iff.mp H
    obtain ⟨t144, A110, H⟩ := H
    try dsimp only at H
    have A11 := Aside0.mk A110
    clear A110
    replace H := Option.bind_eq_some_iff.mp H
    obtain ⟨t145, A120, H⟩ := H
    try dsimp only at H
    have A12 := Aside0.mk A120
    clear A120
    simp only [Option.some.injEq, Prod.mk.injEq] at H
    obtain ⟨rfl, rfl⟩ := H
    go_enter Try.func23, Try.ntmps23
    go_wp2_with (first | ((with_reducible refine gate_dst (N := 4) rfl ?_); refine box_event ?hg (N := 4) ?hd (cs := #[.int .i64 a0_0, .slice A0_1 l0_1.length c0_1]) (t := 24) ?hr ?_; (case hd => rfl); (case hg => rfl); (case hr => first | (go_simp; done) | (go_simp; rfl)); intro gb137 hg w13 hbox hb; have BK137 := Aside0.mk (hbox); have GW137 := bsz (w := w) hg; have GE137 := GW137; replace HO2 := Aside0.mk (Kd.V_below (Kd.V_elderB (by (with_reducible repeat (first | apply Kd.V_alloc | apply Kd.V_drewN | apply Kd.V_drew)); exact HO2.out) gb137 (Nat.le_of_eq hg.symm)) hb); replace HO3 := Aside0.mk (Kd.V_below (Kd.V_elderB (by (with_reducible repeat (first | apply Kd.V_alloc | apply Kd.V_drewN | apply Kd.V_drew)); exact HO3.out) gb137 (Nat.le_of_eq hg.symm)) hb); replace HB := Aside0.mk (below_step bel hb); clear hb hbox hg; obtain ⟨hcz14_0, hcz14_1⟩ := bc2 BK137.out) | ((with_reducible refine gate_dst (N := 15) rfl ?_); refine Kd.N_lit (Kd.slice 3 (Kd.int .i64)) _ 25 ?hg (N' := 15) ?hd (xs := ([l2, l3] : List (List Int))) (inner := [.slice A2 l2.length c2, .slice A3 l3.length c3]) (ok := (fun k_ => ((P2_ k_ ∨ P3_ k_) ∨ w.heap.size ≤ k_) ∧ k_ ≠ gb137)) (okp := (fun k_ => ((P2_ k_ ∨ P3_ k_) ∨ w.heap.size ≤ k_) ∧ k_ ≠ gb137)) ?hr ?hp (fun _ hk => hk) ((show ∀ k_, w13.heap.size ≤ k_ → (fun k_ => ((P2_ k_ ∨ P3_ k_) ∨ w.heap.size ≤ k_) ∧ k_ ≠ gb137) k_ from fun k_ hk => ⟨(.inr (Nat.le_trans (below_size bel) hk)), Kd.freshB (g := gb137) (o := .cells #[.int .i64 a0_0, .slice A0_1 l0_1.length c0_1] 24 (0, 0)) blkz k_ hk⟩) _ (Nat.le_refl _)) (Below.refl _ _) (Nat.le_refl _) (by simp) ?_; (case hd => rfl); (case hg => rfl); (case hr => first | (go_simp; done) | (go_simp; rfl)); (case hp => exact (Reps.one (show Kd.FK (Kd.slice 3 (Kd.int .i64)) _ _ l2 [.slice A2 l2.length c2] from (Kd.FK_slice_mk (Kd.V_reads' (Kd.V_mono (ok' := (fun k_ => ((P2_ k_ ∨ P3_ k_) ∨ w.heap.size ≤ k_) ∧ k_ ≠ gb137)) (HO2.out) (fun k_ hk => ⟨hk.1, hk.2⟩))).2.1 (Kd.V_F (Kd.V_mono (ok' := (fun k_ => ((P2_ k_ ∨ P3_ k_) ∨ w.heap.size ≤ k_) ∧ k_ ≠ gb137)) (HO2.out) (fun k_ hk => ⟨hk.1, hk.2⟩))))) (Reps.one (show Kd.FK (Kd.slice 3 (Kd.int .i64)) _ _ l3 [.slice A3 l3.length c3] from (Kd.FK_slice_mk (Kd.V_reads' (Kd.V_mono (ok' := (fun k_ => ((P2_ k_ ∨ P3_ k_) ∨ w.heap.size ≤ k_) ∧ k_ ≠ gb137)) (HO3.out) (fun k_ hk => ⟨hk.1, hk.2⟩))).2.1 (Kd.V_F (Kd.V_mono (ok' := (fun k_ => ((P2_ k_ ∨ P3_ k_) ∨ w.heap.size ≤ k_) ∧ k_ ≠ gb137)) (HO3.out) (fun k_ hk => ⟨hk.1, hk.2⟩))))) (Reps.none _ _)))); intro v139 w15 ho16 hb hg_ hnew_; clear hg_ hnew_; (first | rw [← Ny138.out] at ho16 | (simp only [Int.reduceToNat] at ho16; rw [← Ny138.out] at ho16)); have HO140 := Aside0.mk (Kd.N_lower ho16 (below_size bel)); replace HO2 := Aside0.mk (Kd.V_elder' (by (with_reducible repeat (first | apply Kd.V_alloc | apply Kd.V_drewN | apply Kd.V_drew)); exact HO2.out) (Kd.N_base ho16) hb); replace HO3 := Aside0.mk (Kd.V_elder' (by (with_reducible repeat (first | apply Kd.V_alloc | apply Kd.V_drewN | apply Kd.V_drew)); exact HO3.out) (Kd.N_base ho16) hb); replace BK137 := Aside0.mk (blk_below (g := gb137) blkz hb); replace HB := Aside0.mk (below_step bel hb); clear hb ho16; obtain ⟨Ao17, co17, eo17⟩ := Kd.N_slice HO140.out; subst eo17) | ((with_reducible refine gate_callee (f := 64) rfl ?_); refine goesL_ (some 16) rfl rfl Try.func64 (by kernel_rfl) rfl #[.agg #[.int .i64 a0_0, .slice A0_1 l0_1.length c0_1], .slice A1 l1.length c1, .slice Ao17 y138.length co17] rfl mapz ?_; (with_reducible refine (key_weighed.calls a0_0 _ _ l0_1 _ _ l1 _ _ y138 t141 _ (cbz HR0_1) HC0_1.out (cbz HR1) HC1.out ?side5 ?side6 A5.out).mono ?_); (case side5 => repeat (first | exact (Kd.N_reads' HO140.out).2.2 | (with_reducible refine Kd.C_alloc ?_ _) | (with_reducible refine Kd.C_drewN ?_ _) | (with_reducible refine Kd.C_drew ?_))); (case side6 => exact (Kd.N_reads' HO140.out).2.1); rintro e w18 ⟨rfl, hb⟩; refine ⟨_, rfl, ?_⟩; replace HO2 := Aside0.mk (Kd.V_below (by (with_reducible repeat (first | apply Kd.V_alloc | apply Kd.V_drewN | apply Kd.V_drew)); exact HO2.out) hb); replace HO3 := Aside0.mk (Kd.V_below (by (with_reducible repeat (first | apply Kd.V_alloc | apply Kd.V_drewN | apply Kd.V_drew)); exact HO3.out) hb); replace HO140 := Aside0.mk (Kd.N_below (by (with_reducible repeat (first | apply Kd.N_alloc | apply Kd.N_drewN | apply Kd.N_drew)); exact HO140.out) hb); replace BK137 := Aside0.mk (blk_below (g := gb137) blkz hb); replace HB := Aside0.mk (below_step bel hb); clear hb; obtain ⟨hcz19_0, hcz19_1⟩ := bc2 BK137.out) | ((with_reducible refine gate_callee (f := 65) rfl ?_); refine goesL_ (some 22) rfl rfl Try.func65 (by kernel_rfl) rfl #[.agg #[.int .i64 a0_0, .slice A0_1 l0_1.length c0_1], .slice A1 l1.length c1] rfl mapz ?_; (with_reducible refine (key_holds.calls k a0_0 _ _ l0_1 _ _ l1 true _ (cbz HR0_1) HC0_1.out (cbz HR1) HC1.out A7.out).mono ?_); rintro e w20 ⟨rfl, hb⟩; refine ⟨_, rfl, ?_⟩; replace HO2 := Aside0.mk (Kd.V_below (by (with_reducible repeat (first | apply Kd.V_alloc | apply Kd.V_drewN | apply Kd.V_drew)); exact HO2.out) hb); replace HO3 := Aside0.mk (Kd.V_below (by (with_reducible repeat (first | apply Kd.V_alloc | apply Kd.V_drewN | apply Kd.V_drew)); exact HO3.out) hb); replace HO140 := Aside0.mk (Kd.N_below (by (with_reducible repeat (first | apply Kd.N_alloc | apply Kd.N_drewN | apply Kd.N_drew)); exact HO140.out) hb); replace BK137 := Aside0.mk (blk_below (g := gb137) blkz hb); replace HB := Aside0.mk (below_step bel hb); clear hb) | (go_at_call 67; (with_reducible refine (slices_Min_int_int.calls _ _ l1 t143 _ (cbz HR1) HC1.out A9.out).mono ?_); rintro e w21 ⟨rfl, hb⟩; replace HO2 := Aside0.mk (Kd.V_below (by (with_reducible repeat (first | apply Kd.V_alloc | apply Kd.V_drewN | apply Kd.V_drew)); exact HO2.out) hb); replace HO3 := Aside0.mk (Kd.V_below (by (with_reducible repeat (first | apply Kd.V_alloc | apply Kd.V_drewN | apply Kd.V_drew)); exact HO3.out) hb); replace HO140 := Aside0.mk (Kd.N_below (by (with_reducible repeat (first | apply Kd.N_alloc | apply Kd.N_drewN | apply Kd.N_drew)); exact HO140.out) hb); replace BK137 := Aside0.mk (blk_below (g := gb137) blkz hb); replace HB := Aside0.mk (below_step bel hb); clear hb) | (go_at_call 66; (with_reducible refine (key_sum.calls k _ _ l1 _ _ l3 t144 _ (cbz HR1) HC1.out ?side3 ?side4 A11.out).mono ?_); (case side3 => repeat (first | exact (Kd.V_reads' HO3.out).2.2 | (with_reducible refine Kd.C_alloc ?_ _) | (with_reducible refine Kd.C_drewN ?_ _) | (with_reducible refine Kd.C_drew ?_))); (case side4 => exact (Kd.V_reads' HO3.out).2.1); rintro e w' ⟨rfl, ⟨nd, rfl⟩⟩) | (go_at_call 66; (with_reducible refine (key_sum.calls k _ _ l1 _ _ l2 t145 _ ?side1 HC1.out ?side3 ?side4 A12.out).mono ?_); (case side1 => repeat (first | exact (Kd.C_below HR1.out bel) | (with_reducible refine Kd.C_alloc ?_ _) | (with_reducible refine Kd.C_drewN ?_ _) | (with_reducible refine Kd.C_drew ?_))); (case side3 => repeat (first | exact (Kd.V_reads' HO2.out).2.2 | (with_reducible refine Kd.C_alloc ?_ _) | (with_reducible refine Kd.C_drewN ?_ _) | (with_reducible refine Kd.C_drew ?_))); (case side4 => exact (Kd.V_reads' HO2.out).2.1); rintro e w' ⟨rfl, ⟨nd, rfl⟩⟩))
    go_ret2
    exact ⟨ezz, bel⟩
   ·
    rw [if_neg c10] at H
    have c10b0 : decide (0 ≤ t143) = false := decide_eq_false c10
    clear c10
    simp only [Option.some.injEq, Prod.mk.injEq] at H
    obtain ⟨rfl, rfl⟩ := H
    go_enter Try.func23, Try.ntmps23
    go_wp2_with (first | ((with_reducible refine gate_dst (N := 4) rfl ?_); refine box_event ?hg (N := 4) ?hd (cs := #[.int .i64 a0_0, .slice A0_1 l0_1.length c0_1]) (t := 24) ?hr ?_; (case hd => rfl); (case hg => rfl); (case hr => first | (go_simp; done) | (go_simp; rfl)); intro gb137 hg w22 hbox hb; have BK137 := Aside0.mk (hbox); have GW137 := bsz (w := w) hg; have GE137 := GW137; replace HO2 := Aside0.mk (Kd.V_below (Kd.V_elderB (by (with_reducible repeat (first | apply Kd.V_alloc | apply Kd.V_drewN | apply Kd.V_drew)); exact HO2.out) gb137 (Nat.le_of_eq hg.symm)) hb); replace HO3 := Aside0.mk (Kd.V_below (Kd.V_elderB (by (with_reducible repeat (first | apply Kd.V_alloc | apply Kd.V_drewN | apply Kd.V_drew)); exact HO3.out) gb137 (Nat.le_of_eq hg.symm)) hb); replace HB := Aside0.mk (below_step bel hb); clear hb hbox hg; obtain ⟨hcz23_0, hcz23_1⟩ := bc2 BK137.out) | ((with_reducible refine gate_dst (N := 15) rfl ?_); refine Kd.N_lit (Kd.slice 3 (Kd.int .i64)) _ 25 ?hg (N' := 15) ?hd (xs := ([l2, l3] : List (List Int))) (inner := [.slice A2 l2.length c2, .slice A3 l3.length c3]) (ok := (fun k_ => ((P2_ k_ ∨ P3_ k_) ∨ w.heap.size ≤ k_) ∧ k_ ≠ gb137)) (okp := (fun k_ => ((P2_ k_ ∨ P3_ k_) ∨ w.heap.size ≤ k_) ∧ k_ ≠ gb137)) ?hr ?hp (fun _ hk => hk) ((show ∀ k_, w22.heap.size ≤ k_ → (fun k_ => ((P2_ k_ ∨ P3_ k_) ∨ w.heap.size ≤ k_) ∧ k_ ≠ gb137) k_ from fun k_ hk => ⟨(.inr (Nat.le_trans (below_size bel) hk)), Kd.freshB (g := gb137) (o := .cells #[.int .i64 a0_0, .slice A0_1 l0_1.length c0_1] 24 (0, 0)) blkz k_ hk⟩) _ (Nat.le_refl _)) (Below.refl _ _) (Nat.le_refl _) (by simp) ?_; (case hd => rfl); (case hg => rfl); (case hr => first | (go_simp; done) | (go_simp; rfl)); (case hp => exact (Reps.one (show Kd.FK (Kd.slice 3 (Kd.int .i64)) _ _ l2 [.slice A2 l2.length c2] from (Kd.FK_slice_mk (Kd.V_reads' (Kd.V_mono (ok' := (fun k_ => ((P2_ k_ ∨ P3_ k_) ∨ w.heap.size ≤ k_) ∧ k_ ≠ gb137)) (HO2.out) (fun k_ hk => ⟨hk.1, hk.2⟩))).2.1 (Kd.V_F (Kd.V_mono (ok' := (fun k_ => ((P2_ k_ ∨ P3_ k_) ∨ w.heap.size ≤ k_) ∧ k_ ≠ gb137)) (HO2.out) (fun k_ hk => ⟨hk.1, hk.2⟩))))) (Reps.one (show Kd.FK (Kd.slice 3 (Kd.int .i64)) _ _ l3 [.slice A3 l3.length c3] from (Kd.FK_slice_mk (Kd.V_reads' (Kd.V_mono (ok' := (fun k_ => ((P2_ k_ ∨ P3_ k_) ∨ w.heap.size ≤ k_) ∧ k_ ≠ gb137)) (HO3.out) (fun k_ hk => ⟨hk.1, hk.2⟩))).2.1 (Kd.V_F (Kd.V_mono (ok' := (fun k_ => ((P2_ k_ ∨ P3_ k_) ∨ w.heap.size ≤ k_) ∧ k_ ≠ gb137)) (HO3.out) (fun k_ hk => ⟨hk.1, hk.2⟩))))) (Reps.none _ _)))); intro v139 w24 ho25 hb hg_ hnew_; clear hg_ hnew_; (first | rw [← Ny138.out] at ho25 | (simp only [Int.reduceToNat] at ho25; rw [← Ny138.out] at ho25)); have HO140 := Aside0.mk (Kd.N_lower ho25 (below_size bel)); replace HO2 := Aside0.mk (Kd.V_elder' (by (with_reducible repeat (first | apply Kd.V_alloc | apply Kd.V_drewN | apply Kd.V_drew)); exact HO2.out) (Kd.N_base ho25) hb); replace HO3 := Aside0.mk (Kd.V_elder' (by (with_reducible repeat (first | apply Kd.V_alloc | apply Kd.V_drewN | apply Kd.V_drew)); exact HO3.out) (Kd.N_base ho25) hb); replace BK137 := Aside0.mk (blk_below (g := gb137) blkz hb); replace HB := Aside0.mk (below_step bel hb); clear hb ho25; obtain ⟨Ao26, co26, eo26⟩ := Kd.N_slice HO140.out; subst eo26) | ((with_reducible refine gate_callee (f := 64) rfl ?_); refine goesL_ (some 16) rfl rfl Try.func64 (by kernel_rfl) rfl #[.agg #[.int .i64 a0_0, .slice A0_1 l0_1.length c0_1], .slice A1 l1.length c1, .slice Ao26 y138.length co26] rfl mapz ?_; (with_reducible refine (key_weighed.calls a0_0 _ _ l0_1 _ _ l1 _ _ y138 t141 _ (cbz HR0_1) HC0_1.out (cbz HR1) HC1.out ?side5 ?side6 A5.out).mono ?_); (case side5 => repeat (first | exact (Kd.N_reads' HO140.out).2.2 | (with_reducible refine Kd.C_alloc ?_ _) | (with_reducible refine Kd.C_drewN ?_ _) | (with_reducible refine Kd.C_drew ?_))); (case side6 => exact (Kd.N_reads' HO140.out).2.1); rintro e w27 ⟨rfl, hb⟩; refine ⟨_, rfl, ?_⟩; replace HO2 := Aside0.mk (Kd.V_below (by (with_reducible repeat (first | apply Kd.V_alloc | apply Kd.V_drewN | apply Kd.V_drew)); exact HO2.out) hb); replace HO3 := Aside0.mk (Kd.V_below (by (with_reducible repeat (first | apply Kd.V_alloc | apply Kd.V_drewN | apply Kd.V_drew)); exact HO3.out) hb); replace HO140 := Aside0.mk (Kd.N_below (by (with_reducible repeat (first | apply Kd.N_alloc | apply Kd.N_drewN | apply Kd.N_drew)); exact HO140.out) hb); replace BK137 := Aside0.mk (blk_below (g := gb137) blkz hb); replace HB := Aside0.mk (below_step bel hb); clear hb; obtain ⟨hcz28_0, hcz28_1⟩ := bc2 BK137.out) | ((with_reducible refine gate_callee (f := 65) rfl ?_); refine goesL_ (some 22) rfl rfl Try.func65 (by kernel_rfl) rfl #[.agg #[.int .i64 a0_0, .slice A0_1 l0_1.length c0_1], .slice A1 l1.length c1] rfl mapz ?_; (with_reducible refine (key_holds.calls k a0_0 _ _ l0_1 _ _ l1 true _ (cbz HR0_1) HC0_1.out (cbz HR1) HC1.out A7.out).mono ?_); rintro e w29 ⟨rfl, hb⟩; refine ⟨_, rfl, ?_⟩; replace HO2 := Aside0.mk (Kd.V_below (by (with_reducible repeat (first | apply Kd.V_alloc | apply Kd.V_drewN | apply Kd.V_drew)); exact HO2.out) hb); replace HO3 := Aside0.mk (Kd.V_below (by (with_reducible repeat (first | apply Kd.V_alloc | apply Kd.V_drewN | apply Kd.V_drew)); exact HO3.out) hb); replace HO140 := Aside0.mk (Kd.N_below (by (with_reducible repeat (first | apply Kd.N_alloc | apply Kd.N_drewN | apply Kd.N_drew)); exact HO140.out) hb); replace BK137 := Aside0.mk (blk_below (g := gb137) blkz hb); replace HB := Aside0.mk (below_step bel hb); clear hb) | (go_at_call 67; (with_reducible refine (slices_Min_int_int.calls _ _ l1 t143 _ (cbz HR1) HC1.out A9.out).mono ?_); rintro e w30 ⟨rfl, hb⟩; replace HO2 := Aside0.mk (Kd.V_below (by (with_reducible repeat (first | apply Kd.V_alloc | apply Kd.V_drewN | apply Kd.V_drew)); exact HO2.out) hb); replace HO3 := Aside0.mk (Kd.V_below (by (with_reducible repeat (first | apply Kd.V_alloc | apply Kd.V_drewN | apply Kd.V_drew)); exact HO3.out) hb); replace HO140 := Aside0.mk (Kd.N_below (by (with_reducible repeat (first | apply Kd.N_alloc | apply Kd.N_drewN | apply Kd.N_drew)); exact HO140.out) hb); replace BK137 := Aside0.mk (blk_below (g := gb137) blkz hb); replace HB := Aside0.mk (below_step bel hb); clear hb))
    go_ret2
    exact ⟨ezz, bel⟩
  ·
   replace c8 := Bool.eq_false_iff.mpr c8
   subst c8
   rw [if_neg (show ¬ (false = true) by decide)] at H
   simp only [Option.some.injEq, Prod.mk.injEq] at H
   obtain ⟨rfl, rfl⟩ := H
   go_enter Try.func23, Try.ntmps23
   go_wp2_with (first | ((with_reducible refine gate_dst (N := 4) rfl ?_); refine box_event ?hg (N := 4) ?hd (cs := #[.int .i64 a0_0, .slice A0_1 l0_1.length c0_1]) (t := 24) ?hr ?_; (case hd => rfl); (case hg => rfl); (case hr => first | (go_simp; done) | (go_simp; rfl)); intro gb137 hg w31 hbox hb; have BK137 := Aside0.mk (hbox); have GW137 := bsz (w := w) hg; have GE137 := GW137; replace HO2 := Aside0.mk (Kd.V_below (Kd.V_elderB (by (with_reducible repeat (first | apply Kd.V_alloc | apply Kd.V_drewN | apply Kd.V_drew)); exact HO2.out) gb137 (Nat.le_of_eq hg.symm)) hb); replace HO3 := Aside0.mk (Kd.V_below (Kd.V_elderB (by (with_reducible repeat (first | apply Kd.V_alloc | apply Kd.V_drewN | apply Kd.V_drew)); exact HO3.out) gb137 (Nat.le_of_eq hg.symm)) hb); replace HB := Aside0.mk (below_step bel hb); clear hb hbox hg; obtain ⟨hcz32_0, hcz32_1⟩ := bc2 BK137.out) | ((with_reducible refine gate_dst (N := 15) rfl ?_); refine Kd.N_lit (Kd.slice 3 (Kd.int .i64)) _ 25 ?hg (N' := 15) ?hd (xs := ([l2, l3] : List (List Int))) (inner := [.slice A2 l2.length c2, .slice A3 l3.length c3]) (ok := (fun k_ => ((P2_ k_ ∨ P3_ k_) ∨ w.heap.size ≤ k_) ∧ k_ ≠ gb137)) (okp := (fun k_ => ((P2_ k_ ∨ P3_ k_) ∨ w.heap.size ≤ k_) ∧ k_ ≠ gb137)) ?hr ?hp (fun _ hk => hk) ((show ∀ k_, w31.heap.size ≤ k_ → (fun k_ => ((P2_ k_ ∨ P3_ k_) ∨ w.heap.size ≤ k_) ∧ k_ ≠ gb137) k_ from fun k_ hk => ⟨(.inr (Nat.le_trans (below_size bel) hk)), Kd.freshB (g := gb137) (o := .cells #[.int .i64 a0_0, .slice A0_1 l0_1.length c0_1] 24 (0, 0)) blkz k_ hk⟩) _ (Nat.le_refl _)) (Below.refl _ _) (Nat.le_refl _) (by simp) ?_; (case hd => rfl); (case hg => rfl); (case hr => first | (go_simp; done) | (go_simp; rfl)); (case hp => exact (Reps.one (show Kd.FK (Kd.slice 3 (Kd.int .i64)) _ _ l2 [.slice A2 l2.length c2] from (Kd.FK_slice_mk (Kd.V_reads' (Kd.V_mono (ok' := (fun k_ => ((P2_ k_ ∨ P3_ k_) ∨ w.heap.size ≤ k_) ∧ k_ ≠ gb137)) (HO2.out) (fun k_ hk => ⟨hk.1, hk.2⟩))).2.1 (Kd.V_F (Kd.V_mono (ok' := (fun k_ => ((P2_ k_ ∨ P3_ k_) ∨ w.heap.size ≤ k_) ∧ k_ ≠ gb137)) (HO2.out) (fun k_ hk => ⟨hk.1, hk.2⟩))))) (Reps.one (show Kd.FK (Kd.slice 3 (Kd.int .i64)) _ _ l3 [.slice A3 l3.length c3] from (Kd.FK_slice_mk (Kd.V_reads' (Kd.V_mono (ok' := (fun k_ => ((P2_ k_ ∨ P3_ k_) ∨ w.heap.size ≤ k_) ∧ k_ ≠ gb137)) (HO3.out) (fun k_ hk => ⟨hk.1, hk.2⟩))).2.1 (Kd.V_F (Kd.V_mono (ok' := (fun k_ => ((P2_ k_ ∨ P3_ k_) ∨ w.heap.size ≤ k_) ∧ k_ ≠ gb137)) (HO3.out) (fun k_ hk => ⟨hk.1, hk.2⟩))))) (Reps.none _ _)))); intro v139 w33 ho34 hb hg_ hnew_; clear hg_ hnew_; (first | rw [← Ny138.out] at ho34 | (simp only [Int.reduceToNat] at ho34; rw [← Ny138.out] at ho34)); have HO140 := Aside0.mk (Kd.N_lower ho34 (below_size bel)); replace HO2 := Aside0.mk (Kd.V_elder' (by (with_reducible repeat (first | apply Kd.V_alloc | apply Kd.V_drewN | apply Kd.V_drew)); exact HO2.out) (Kd.N_base ho34) hb); replace HO3 := Aside0.mk (Kd.V_elder' (by (with_reducible repeat (first | apply Kd.V_alloc | apply Kd.V_drewN | apply Kd.V_drew)); exact HO3.out) (Kd.N_base ho34) hb); replace BK137 := Aside0.mk (blk_below (g := gb137) blkz hb); replace HB := Aside0.mk (below_step bel hb); clear hb ho34; obtain ⟨Ao35, co35, eo35⟩ := Kd.N_slice HO140.out; subst eo35) | ((with_reducible refine gate_callee (f := 64) rfl ?_); refine goesL_ (some 16) rfl rfl Try.func64 (by kernel_rfl) rfl #[.agg #[.int .i64 a0_0, .slice A0_1 l0_1.length c0_1], .slice A1 l1.length c1, .slice Ao35 y138.length co35] rfl mapz ?_; (with_reducible refine (key_weighed.calls a0_0 _ _ l0_1 _ _ l1 _ _ y138 t141 _ (cbz HR0_1) HC0_1.out (cbz HR1) HC1.out ?side5 ?side6 A5.out).mono ?_); (case side5 => repeat (first | exact (Kd.N_reads' HO140.out).2.2 | (with_reducible refine Kd.C_alloc ?_ _) | (with_reducible refine Kd.C_drewN ?_ _) | (with_reducible refine Kd.C_drew ?_))); (case side6 => exact (Kd.N_reads' HO140.out).2.1); rintro e w36 ⟨rfl, hb⟩; refine ⟨_, rfl, ?_⟩; replace HO2 := Aside0.mk (Kd.V_below (by (with_reducible repeat (first | apply Kd.V_alloc | apply Kd.V_drewN | apply Kd.V_drew)); exact HO2.out) hb); replace HO3 := Aside0.mk (Kd.V_below (by (with_reducible repeat (first | apply Kd.V_alloc | apply Kd.V_drewN | apply Kd.V_drew)); exact HO3.out) hb); replace HO140 := Aside0.mk (Kd.N_below (by (with_reducible repeat (first | apply Kd.N_alloc | apply Kd.N_drewN | apply Kd.N_drew)); exact HO140.out) hb); replace BK137 := Aside0.mk (blk_below (g := gb137) blkz hb); replace HB := Aside0.mk (below_step bel hb); clear hb; obtain ⟨hcz37_0, hcz37_1⟩ := bc2 BK137.out) | ((with_reducible refine gate_callee (f := 65) rfl ?_); refine goesL_ (some 22) rfl rfl Try.func65 (by kernel_rfl) rfl #[.agg #[.int .i64 a0_0, .slice A0_1 l0_1.length c0_1], .slice A1 l1.length c1] rfl mapz ?_; (with_reducible refine (key_holds.calls k a0_0 _ _ l0_1 _ _ l1 false _ (cbz HR0_1) HC0_1.out (cbz HR1) HC1.out A7.out).mono ?_); rintro e w38 ⟨rfl, hb⟩; refine ⟨_, rfl, ?_⟩; replace HO2 := Aside0.mk (Kd.V_below (by (with_reducible repeat (first | apply Kd.V_alloc | apply Kd.V_drewN | apply Kd.V_drew)); exact HO2.out) hb); replace HO3 := Aside0.mk (Kd.V_below (by (with_reducible repeat (first | apply Kd.V_alloc | apply Kd.V_drewN | apply Kd.V_drew)); exact HO3.out) hb); replace HO140 := Aside0.mk (Kd.N_below (by (with_reducible repeat (first | apply Kd.N_alloc | apply Kd.N_drewN | apply Kd.N_drew)); exact HO140.out) hb); replace BK137 := Aside0.mk (blk_below (g := gb137) blkz hb); replace HB := Aside0.mk (below_step bel hb); clear hb))
   go_ret2
   exact ⟨ezz, bel⟩
 ·
  rw [if_neg c6] at H
  have c6b0 : (t141 == 0) = false := beq_eq_false_iff_ne.mpr c6
  have c6b1 : (t141 != 0) = true := bne_iff_ne.mpr c6
  simp only [Option.some.injEq, Prod.mk.injEq] at H
  obtain ⟨rfl, rfl⟩ := H
  go_enter Try.func23, Try.ntmps23
  go_wp2_with (first | ((with_reducible refine gate_dst (N := 4) rfl ?_); refine box_event ?hg (N := 4) ?hd (cs := #[.int .i64 a0_0, .slice A0_1 l0_1.length c0_1]) (t := 24) ?hr ?_; (case hd => rfl); (case hg => rfl); (case hr => first | (go_simp; done) | (go_simp; rfl)); intro gb137 hg w39 hbox hb; have BK137 := Aside0.mk (hbox); have GW137 := bsz (w := w) hg; have GE137 := GW137; replace HO2 := Aside0.mk (Kd.V_below (Kd.V_elderB (by (with_reducible repeat (first | apply Kd.V_alloc | apply Kd.V_drewN | apply Kd.V_drew)); exact HO2.out) gb137 (Nat.le_of_eq hg.symm)) hb); replace HO3 := Aside0.mk (Kd.V_below (Kd.V_elderB (by (with_reducible repeat (first | apply Kd.V_alloc | apply Kd.V_drewN | apply Kd.V_drew)); exact HO3.out) gb137 (Nat.le_of_eq hg.symm)) hb); replace HB := Aside0.mk (below_step bel hb); clear hb hbox hg; obtain ⟨hcz40_0, hcz40_1⟩ := bc2 BK137.out) | ((with_reducible refine gate_dst (N := 15) rfl ?_); refine Kd.N_lit (Kd.slice 3 (Kd.int .i64)) _ 25 ?hg (N' := 15) ?hd (xs := ([l2, l3] : List (List Int))) (inner := [.slice A2 l2.length c2, .slice A3 l3.length c3]) (ok := (fun k_ => ((P2_ k_ ∨ P3_ k_) ∨ w.heap.size ≤ k_) ∧ k_ ≠ gb137)) (okp := (fun k_ => ((P2_ k_ ∨ P3_ k_) ∨ w.heap.size ≤ k_) ∧ k_ ≠ gb137)) ?hr ?hp (fun _ hk => hk) ((show ∀ k_, w39.heap.size ≤ k_ → (fun k_ => ((P2_ k_ ∨ P3_ k_) ∨ w.heap.size ≤ k_) ∧ k_ ≠ gb137) k_ from fun k_ hk => ⟨(.inr (Nat.le_trans (below_size bel) hk)), Kd.freshB (g := gb137) (o := .cells #[.int .i64 a0_0, .slice A0_1 l0_1.length c0_1] 24 (0, 0)) blkz k_ hk⟩) _ (Nat.le_refl _)) (Below.refl _ _) (Nat.le_refl _) (by simp) ?_; (case hd => rfl); (case hg => rfl); (case hr => first | (go_simp; done) | (go_simp; rfl)); (case hp => exact (Reps.one (show Kd.FK (Kd.slice 3 (Kd.int .i64)) _ _ l2 [.slice A2 l2.length c2] from (Kd.FK_slice_mk (Kd.V_reads' (Kd.V_mono (ok' := (fun k_ => ((P2_ k_ ∨ P3_ k_) ∨ w.heap.size ≤ k_) ∧ k_ ≠ gb137)) (HO2.out) (fun k_ hk => ⟨hk.1, hk.2⟩))).2.1 (Kd.V_F (Kd.V_mono (ok' := (fun k_ => ((P2_ k_ ∨ P3_ k_) ∨ w.heap.size ≤ k_) ∧ k_ ≠ gb137)) (HO2.out) (fun k_ hk => ⟨hk.1, hk.2⟩))))) (Reps.one (show Kd.FK (Kd.slice 3 (Kd.int .i64)) _ _ l3 [.slice A3 l3.length c3] from (Kd.FK_slice_mk (Kd.V_reads' (Kd.V_mono (ok' := (fun k_ => ((P2_ k_ ∨ P3_ k_) ∨ w.heap.size ≤ k_) ∧ k_ ≠ gb137)) (HO3.out) (fun k_ hk => ⟨hk.1, hk.2⟩))).2.1 (Kd.V_F (Kd.V_mono (ok' := (fun k_ => ((P2_ k_ ∨ P3_ k_) ∨ w.heap.size ≤ k_) ∧ k_ ≠ gb137)) (HO3.out) (fun k_ hk => ⟨hk.1, hk.2⟩))))) (Reps.none _ _)))); intro v139 w41 ho42 hb hg_ hnew_; clear hg_ hnew_; (first | rw [← Ny138.out] at ho42 | (simp only [Int.reduceToNat] at ho42; rw [← Ny138.out] at ho42)); have HO140 := Aside0.mk (Kd.N_lower ho42 (below_size bel)); replace HO2 := Aside0.mk (Kd.V_elder' (by (with_reducible repeat (first | apply Kd.V_alloc | apply Kd.V_drewN | apply Kd.V_drew)); exact HO2.out) (Kd.N_base ho42) hb); replace HO3 := Aside0.mk (Kd.V_elder' (by (with_reducible repeat (first | apply Kd.V_alloc | apply Kd.V_drewN | apply Kd.V_drew)); exact HO3.out) (Kd.N_base ho42) hb); replace BK137 := Aside0.mk (blk_below (g := gb137) blkz hb); replace HB := Aside0.mk (below_step bel hb); clear hb ho42; obtain ⟨Ao43, co43, eo43⟩ := Kd.N_slice HO140.out; subst eo43) | ((with_reducible refine gate_callee (f := 64) rfl ?_); refine goesL_ (some 16) rfl rfl Try.func64 (by kernel_rfl) rfl #[.agg #[.int .i64 a0_0, .slice A0_1 l0_1.length c0_1], .slice A1 l1.length c1, .slice Ao43 y138.length co43] rfl mapz ?_; (with_reducible refine (key_weighed.calls a0_0 _ _ l0_1 _ _ l1 _ _ y138 t141 _ (cbz HR0_1) HC0_1.out (cbz HR1) HC1.out ?side5 ?side6 A5.out).mono ?_); (case side5 => repeat (first | exact (Kd.N_reads' HO140.out).2.2 | (with_reducible refine Kd.C_alloc ?_ _) | (with_reducible refine Kd.C_drewN ?_ _) | (with_reducible refine Kd.C_drew ?_))); (case side6 => exact (Kd.N_reads' HO140.out).2.1); rintro e w44 ⟨rfl, hb⟩; refine ⟨_, rfl, ?_⟩; replace HO2 := Aside0.mk (Kd.V_below (by (with_reducible repeat (first | apply Kd.V_alloc | apply Kd.V_drewN | apply Kd.V_drew)); exact HO2.out) hb); replace HO3 := Aside0.mk (Kd.V_below (by (with_reducible repeat (first | apply Kd.V_alloc | apply Kd.V_drewN | apply Kd.V_drew)); exact HO3.out) hb); replace HO140 := Aside0.mk (Kd.N_below (by (with_reducible repeat (first | apply Kd.N_alloc | apply Kd.N_drewN | apply Kd.N_drew)); exact HO140.out) hb); replace BK137 := Aside0.mk (blk_below (g := gb137) blkz hb); replace HB := Aside0.mk (below_step bel hb); clear hb))
  go_ret2
  exact ⟨ezz, bel⟩

end Go.Proofs.Ytgdfakmlpdeabaa.XKey