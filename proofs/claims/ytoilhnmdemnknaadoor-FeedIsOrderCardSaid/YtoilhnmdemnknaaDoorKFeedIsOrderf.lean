-- Written by wip/pack.py of this repo: texts of this claim, put together.
import Derived.Test.YtoilhnmdemnknaaDoorKFeedIsOrdere
-- Written by wip/xprint.py of this repo, over the kit's print.py: out of the translation; the oracles in it are by hand. Not trusted: Lean checks it.
namespace Go.Proofs.YtoilhnmdemnknaaDoor.XFeed
open Go.RowKit Go.Proofs.YtoilhnmdemnknaaDoorW.PrintWords Go.Proofs.YtoilhnmdemnknaaDoorW.PrintLast Go.Proofs.YtoilhnmdemnknaaDoorW.PrintMore
attribute [local go_sem] max2_int min2_int max_two min_two max_three min_three max_four min_four   -- for this text's walks alone
set_option linter.unusedVariables false
set_option linter.unusedSimpArgs false

/-! ### dropperref05_IsOrder: function 33 -/
def dropperref05_IsOrder.l0 : Nat → Int → List Int → List Int → Int → Int → List (S69) → List (S71) → Option (Bool × Int)
 | 0, _, _, _, _, _, _, _ => none
 | k + 1, x1, x2, x3, x11, x531000, x531001, x531002 => if x11 < (x3.length : Int) then (if 0 ≤ x11 then (if 0 ≤ (rd x3 x11) then ((dropperref05_Good.f k x531000 x531001 x531002 (Go.bits .xor .i64 x1 (shl .i64 1 (rd x3 x11))) x2).bind fun t534 => (if t534 = true then (dropperref05_IsOrder.l0 k (Go.bits .xor .i64 x1 (shl .i64 1 (rd x3 x11))) x2 x3 (wrap64 (x11 + 1)) x531000 x531001 x531002) else (some (false, 0)))) else (none)) else (none)) else (some (true, 0))
def dropperref05_IsOrder.f (k : Nat) (a0_0 : Int) (l0_1 : List (S69)) (l0_2 : List (S71)) (a1 : Int) (l2 : List Int) (l3 : List Int) : Option (Bool × Int) := (dropperref05_begun.f k a0_0 l0_1 l0_2 a1 l2).bind fun t531 => (if t531 = 0 then ((dropperref05_isList.f k a0_0 l0_1 l0_2 l3).bind fun t532 => (if t532 = true then (dropperref05_IsOrder.l0 k a1 l2 l3 0 a0_0 l0_1 l0_2) else (some (false, 2)))) else (some (false, t531)))
theorem dropperref05_IsOrder.mono_l : ∀ k, (∀ y0 y1 y2 y3 y4 y5 y6, LeO (dropperref05_IsOrder.l0 k y0 y1 y2 y3 y4 y5 y6) (dropperref05_IsOrder.l0 (k + 1) y0 y1 y2 y3 y4 y5 y6))
 | 0 => fun _ _ _ _ _ _ _ r h => by simp [dropperref05_IsOrder.l0] at h
 | k + 1 => by
  have ih0 := dropperref05_IsOrder.mono_l k
  ·
   intro y0 y1 y2 y3 y4 y5 y6
   unfold dropperref05_IsOrder.l0
   repeat' first
   | (with_reducible exact ih0 _ _ _ _ _ _ _)
   | (with_reducible exact dropperref05_Good.mono _ _ _ _ _ _)
   | (with_reducible exact dropperref05_begun.mono _ _ _ _ _ _)
   | (with_reducible exact dropperref05_isList.mono _ _ _ _ _)
   | (with_reducible exact LeO.refl _)
   | (with_reducible exact LeO.none _)
   | (with_reducible refine LeO.ite ?_ ?_)
   | (with_reducible refine LeO.bind ?_ (fun _ => ?_))
   | exact ih0 _ _ _ _ _ _ _
   | exact dropperref05_Good.mono _ _ _ _ _ _
   | exact dropperref05_begun.mono _ _ _ _ _ _
   | exact dropperref05_isList.mono _ _ _ _ _
   | exact LeO.none _
   | refine LeO.ite ?_ ?_
   | refine LeO.bind ?_ (fun _ => ?_)
theorem dropperref05_IsOrder.mono : ∀ a0 a1 a2 a3 a4 a5 k, LeO (dropperref05_IsOrder.f k a0 a1 a2 a3 a4 a5) (dropperref05_IsOrder.f (k + 1) a0 a1 a2 a3 a4 a5) := by
 intro a0 a1 a2 a3 a4 a5 k
 have ih0 := dropperref05_IsOrder.mono_l k
 unfold dropperref05_IsOrder.f
 repeat' first
   | (with_reducible exact ih0 _ _ _ _ _ _ _)
   | (with_reducible exact dropperref05_Good.mono _ _ _ _ _ _)
   | (with_reducible exact dropperref05_begun.mono _ _ _ _ _ _)
   | (with_reducible exact dropperref05_isList.mono _ _ _ _ _)
   | (with_reducible exact LeO.refl _)
   | (with_reducible exact LeO.none _)
   | (with_reducible refine LeO.ite ?_ ?_)
   | (with_reducible refine LeO.bind ?_ (fun _ => ?_))
   | exact ih0 _ _ _ _ _ _ _
   | exact dropperref05_Good.mono _ _ _ _ _ _
   | exact dropperref05_begun.mono _ _ _ _ _ _
   | exact dropperref05_isList.mono _ _ _ _ _
   | exact LeO.none _
   | refine LeO.ite ?_ ?_
   | refine LeO.bind ?_ (fun _ => ?_)
set_option maxHeartbeats 8000000 in
set_option maxRecDepth 100000 in
theorem dropperref05_IsOrder.calls (k : Nat) (a0_0 : Int) (A0_1 : Option Addr) (c0_1 : Nat) (l0_1 : List (S69)) (A0_2 : Option Addr) (c0_2 : Nat) (l0_2 : List (S71)) (a1 : Int) (A2 : Option Addr) (c2 : Nat) (l2 : List Int) (A3 : Option Addr) (c3 : Nat) (l3 : List Int) (r1 : Bool) (r2 : Int) (w : World) (hr0_1 : Kd.C k69 w A0_1 l0_1.length l0_1) (hc0_1 : l0_1.length ≤ c0_1) (hr0_2 : Kd.C k71 w A0_2 l0_2.length l0_2) (hc0_2 : l0_2.length ≤ c0_2) (hr2 : Kd.C (Kd.int .i64) w A2 l2.length l2) (hc2 : l2.length ≤ c2) (hr3 : Kd.C (Kd.int .i64) w A3 l3.length l3) (hc3 : l3.length ≤ c3) (h : dropperref05_IsOrder.f k a0_0 l0_1 l0_2 a1 l2 l3 = some (r1, r2)) :
  Calls Tryd.prog 33 #[.agg #[.int .i64 a0_0, .slice A0_1 l0_1.length c0_1, .slice A0_2 l0_2.length c0_2], .int .i64 a1, .slice A2 l2.length c2, .slice A3 l3.length c3] w fun e w' => e = .returned (.tuple #[.bool r1, .int .i64 r2]) ∧ Below w.heap.size w w' := by
 have hu25 := Tryd.underlying25
 have HR0_1 := Aside0.mk hr0_1
 have HC0_1 := Aside0.mk hc0_1
 clear hr0_1 hc0_1
 have HR0_2 := Aside0.mk hr0_2
 have HC0_2 := Aside0.mk hc0_2
 clear hr0_2 hc0_2
 have HR2 := Aside0.mk hr2
 have HC2 := Aside0.mk hc2
 clear hr2 hc2
 have HR3 := Aside0.mk hr3
 have HC3 := Aside0.mk hc3
 clear hr3 hc3
 have HB := Aside0.mk (Below.refl w.heap.size w)
 have H : ((dropperref05_begun.f k a0_0 l0_1 l0_2 a1 l2).bind fun t531 => (if t531 = 0 then ((dropperref05_isList.f k a0_0 l0_1 l0_2 l3).bind fun t532 => (if t532 = true then (dropperref05_IsOrder.l0 k a1 l2 l3 0 a0_0 l0_1 l0_2) else (some (false, 2)))) else (some (false, t531)))) = some (r1, r2) := h
 clear h
 replace H := Option.bind_eq_some_iff.mp H
 obtain ⟨t531, A50, H⟩ := H
 replace H : (if t531 = 0 then ((dropperref05_isList.f k a0_0 l0_1 l0_2 l3).bind fun t532 => (if t532 = true then (dropperref05_IsOrder.l0 k a1 l2 l3 0 a0_0 l0_1 l0_2) else (some (false, 2)))) else (some (false, t531))) = some (r1, r2) := H
 have A5 := Aside0.mk A50
 clear A50
 by_cases c6 : t531 = 0
 ·
  rw [if_pos c6] at H
  have c6b0 : (t531 == 0) = true := beq_iff_eq.mpr c6
  have c6b1 : (t531 != 0) = false := bne_eq_false_iff_eq.mpr c6
  clear c6
  replace H := Option.bind_eq_some_iff.mp H
  obtain ⟨t532, A70, H⟩ := H
  replace H : (if t532 = true then (dropperref05_IsOrder.l0 k a1 l2 l3 0 a0_0 l0_1 l0_2) else (some (false, 2))) = some (r1, r2) := H
  have A7 := Aside0.mk A70
  clear A70
  by_cases c8 : t532 = true
  ·
   subst c8
   have H1 : (dropperref05_IsOrder.l0 k a1 l2 l3 0 a0_0 l0_1 l0_2) = some (r1, r2) := by rw [if_pos rfl] at H; exact H
   clear H
   have H := H1
   clear H1
   have H' := Aside0.mk H
   clear H
   go_enter Tryd.func33, Tryd.ntmps33
   go_wp2_with (first | ((with_reducible refine gate_dst (N := 4) rfl ?_); refine box_event ?hg (N := 4) ?hd (cs := #[.int .i64 a0_0, .slice A0_1 l0_1.length c0_1, .slice A0_2 l0_2.length c0_2]) (t := 25) ?hr ?_; (case hd => rfl); (case hg => rfl); (case hr => first | (go_simp; done) | (go_simp; rfl)); intro gb530 hg w9 hbox hb; have n0_ := Aside0.mk (below_step bel hb); have n1_ := Aside0.mk (hbox); have n2_ := Aside0.mk ((by rw [hg]; exact (below_size bel) : w.heap.size ≤ gb530)); have n3_ := n2_; clear HB; have HB := n0_; have BK530 := n1_; have GW530 := n2_; have GE530 := n3_; clear n0_ n1_ n2_ n3_; clear hb hbox hg; have hcz10_0 := blkc BK530.out 0 (.int .i64 a0_0) rfl; have hcz10_1 := blkc BK530.out 1 (.slice A0_1 l0_1.length c0_1) rfl; have hcz10_2 := blkc BK530.out 2 (.slice A0_2 l0_2.length c0_2) rfl; have hfz10_0 := blk_frozen BK530.out 0; have hfz10_1 := blk_frozen BK530.out 1; have hfz10_2 := blk_frozen BK530.out 2) | ((with_reducible refine gate_callee (f := 72) rfl ?_); refine goesL_ (some 15) rfl rfl Tryd.func72 (by kernel_rfl) rfl #[.agg #[.int .i64 a0_0, .slice A0_1 l0_1.length c0_1, .slice A0_2 l0_2.length c0_2], .int .i64 a1, .slice A2 l2.length c2] rfl mapz ?_; (with_reducible refine (dropperref05_begun.calls k a0_0 _ _ l0_1 _ _ l0_2 a1 _ _ l2 t531 _ ?side1 ?side2 ?side3 ?side4 ?side5 ?side6 A5.out).mono ?_); (case side1 => exact cbz HR0_1); (case side2 => exact HC0_1.out); (case side3 => exact cbz HR0_2); (case side4 => exact HC0_2.out); (case side5 => exact cbz HR2); (case side6 => exact HC2.out); rintro e w11 ⟨rfl, hb⟩; refine ⟨_, rfl, ?_⟩; have n0_ := Aside0.mk (blk_below (g := gb530) blkz hb); have n1_ := Aside0.mk (below_step bel hb); clear BK530; clear HB; have BK530 := n0_; have HB := n1_; clear n0_ n1_; (try clear hb); (try clear hb2); (try clear hk); (try clear hi); have hcz12_0 := blkc BK530.out 0 (.int .i64 a0_0) rfl; have hcz12_1 := blkc BK530.out 1 (.slice A0_1 l0_1.length c0_1) rfl; have hcz12_2 := blkc BK530.out 2 (.slice A0_2 l0_2.length c0_2) rfl; have hfz12_0 := blk_frozen BK530.out 0; have hfz12_1 := blk_frozen BK530.out 1; have hfz12_2 := blk_frozen BK530.out 2) | ((with_reducible refine gate_callee (f := 73) rfl ?_); refine goesL_ (some 21) rfl rfl Tryd.func73 (by kernel_rfl) rfl #[.agg #[.int .i64 a0_0, .slice A0_1 l0_1.length c0_1, .slice A0_2 l0_2.length c0_2], .slice A3 l3.length c3] rfl mapz ?_; (with_reducible refine (dropperref05_isList.calls k a0_0 _ _ l0_1 _ _ l0_2 _ _ l3 true _ ?side1 ?side2 ?side3 ?side4 ?side5 ?side6 A7.out).mono ?_); (case side1 => exact cbz HR0_1); (case side2 => exact HC0_1.out); (case side3 => exact cbz HR0_2); (case side4 => exact HC0_2.out); (case side5 => exact cbz HR3); (case side6 => exact HC3.out); rintro e w13 ⟨rfl, hb⟩; refine ⟨_, rfl, ?_⟩; have n0_ := Aside0.mk (blk_below (g := gb530) blkz hb); have n1_ := Aside0.mk (below_step bel hb); clear BK530; clear HB; have BK530 := n0_; have HB := n1_; clear n0_ n1_; (try clear hb); (try clear hb2); (try clear hk); (try clear hi)))
   go_loopg [1, 11] k (fun kq v1 v11 w' => ∃ (x1_1 : Int) (x11_1 : Int), v1 = .int .i64 x1_1 ∧ v11 = .int .i64 x11_1 ∧ Aside0 (dropperref05_IsOrder.l0 kq x1_1 l2 l3 x11_1 a0_0 l0_1 l0_2 = some (r1, r2)) ∧ Aside0 (kq ≤ k) ∧ Aside0 (w'.heap[gb530]? = some (.cells #[.int .i64 a0_0, (.slice A0_1 l0_1.length c0_1), (.slice A0_2 l0_2.length c0_2)] 25 (0, 0))) ∧ Aside0 (Below w.heap.size w w'))
   case atStart => exact ⟨(a1), (0), rsz, rsz, H', ⟨Nat.le_refl _⟩, ⟨by (with_reducible repeat (first | refine blk_drewN ?_ _ | refine blk_drew ?_ | refine blk_alloc ?_ _)); exact BK530.out⟩, ⟨by repeat (first | (with_reducible first | exact HB.out | apply below_alloc | apply pw_below_drewN | apply below_drew1 | refine below_set ?_ GE530.out) | exact HB.out)⟩⟩
   case round =>
    clear H'
    try clear c2
    try clear p2
    try clear c3
    try clear c6
    try clear c6b0
    try clear c6b1
    try clear c7
    try clear c8
    try clear hcz10_0
    try clear hcz10_1
    try clear hcz10_2
    try clear hcz12_0
    try clear hcz12_1
    try clear hcz12_2
    try clear hfz10_0
    try clear hfz10_1
    try clear hfz10_2
    try clear hfz12_0
    try clear hfz12_1
    try clear hfz12_2
    obtain ⟨x1_1, x11_1, rfl, rfl, HA, HK1, BK530, HB⟩ := hrel
    cases gk with
    | zero => exact absurd HA.out (by simp [dropperref05_IsOrder.l0])
    | succ k1 =>
     have H := HA.out
     clear HA
     simp only [dropperref05_IsOrder.l0] at H
     by_cases c14 : x11_1 < (l3.length : Int)
     ·
      rw [if_pos c14] at H
      have c14b0 : decide (x11_1 < (l3.length : Int)) = true := decide_eq_true c14
      clear c14
      by_cases c15 : 0 ≤ x11_1
      ·
       rw [if_pos c15] at H
       have c15b0 : decide (0 ≤ x11_1) = true := decide_eq_true c15
       clear c15
       by_cases c16 : 0 ≤ (rd l3 x11_1)
       ·
        rw [if_pos c16] at H
        have c16b0 := eq_true c16
        have c16b1 : decide (0 ≤ (rd l3 x11_1)) = true := decide_eq_true c16
        clear c16
        obtain ⟨ji17, hji17⟩ : ∃ j_ : Int, (shl .i64 1 (rd l3 x11_1)) = j_ := ⟨_, rfl⟩
        replace H : ((dropperref05_Good.f k1 a0_0 l0_1 l0_2 (Go.bits .xor .i64 x1_1 (ji17)) l2).bind fun t534 => (if t534 = true then (dropperref05_IsOrder.l0 k1 (Go.bits .xor .i64 x1_1 (ji17)) l2 l3 (wrap64 (x11_1 + 1)) a0_0 l0_1 l0_2) else (some (false, 0)))) = some (r1, r2) := by first | (rw [hji17] at H; exact H) | (simp only [hji17] at H ⊢; exact H)
        have hji17_ : (IntKind.i64.wrap (1 * 2 ^ min (rd l3 x11_1).toNat 64)) = ji17 := hji17
        have hji17z : (rd l3 x11_1) ≤ 64 → (IntKind.i64.wrap (1 * 2 ^ (rd l3 x11_1).toNat)) = ji17 := shl_small hji17
        have hji17u : (IntKind.i64.wrap (2 ^ min (rd l3 x11_1).toNat 64)) = ji17 := by have h_ := hji17_; rw [Int.one_mul] at h_; exact h_
        have hji17v : (rd l3 x11_1) ≤ 64 → (IntKind.i64.wrap (2 ^ (rd l3 x11_1).toNat)) = ji17 := fun hle_ => by have h_ := hji17z hle_; rw [Int.one_mul] at h_; exact h_
        have hji17y : (wrap64 (1 * 2 ^ min (rd l3 x11_1).toNat 64)) = ji17 := (i64_w _).symm.trans hji17_
        have hji17x : (rd l3 x11_1) ≤ 64 → (wrap64 (1 * 2 ^ (rd l3 x11_1).toNat)) = ji17 := fun h_ => (i64_w _).symm.trans (hji17z h_)
        replace H := Option.bind_eq_some_iff.mp H
        obtain ⟨t534, A180, H⟩ := H
        replace H : (if t534 = true then (dropperref05_IsOrder.l0 k1 (Go.bits .xor .i64 x1_1 (ji17)) l2 l3 (wrap64 (x11_1 + 1)) a0_0 l0_1 l0_2) else (some (false, 0))) = some (r1, r2) := H
        have A18 := Aside0.mk A180
        clear A180
        by_cases c19 : t534 = true
        ·
         subst c19
         have H1 : (dropperref05_IsOrder.l0 k1 (Go.bits .xor .i64 x1_1 (ji17)) l2 l3 (wrap64 (x11_1 + 1)) a0_0 l0_1 l0_2) = some (r1, r2) := by rw [if_pos rfl] at H; exact H
         clear H
         have H := H1
         clear H1
         have H' := Aside0.mk H
         clear H
         have p533 : 0 ≤ (x11_1 : Int) := of_decide_eq_true asz
         have q533 : x11_1 < (l3.length : Int) := of_decide_eq_true asz
         obtain ⟨ad533, e533, hx533_0⟩ := Kd.at_int HR3.out x11_1 p533 q533
         cases e533
         replace hx533_0 := (HB.out.cell (World.block_lt_of_cell? w _ hx533_0)).trans hx533_0
         replace p533 := eq_true p533
         replace q533 := eq_true q533
         have hcz20_0 := blkc BK530.out 0 (.int .i64 a0_0) rfl
         have hcz20_1 := blkc BK530.out 1 (.slice A0_1 l0_1.length c0_1) rfl
         have hcz20_2 := blkc BK530.out 2 (.slice A0_2 l0_2.length c0_2) rfl
         have hfz20_0 := blk_frozen BK530.out 0
         have hfz20_1 := blk_frozen BK530.out 1
         have hfz20_2 := blk_frozen BK530.out 2
         go_wp2_with (first | ((with_reducible refine gate_callee (f := 74) rfl ?_); refine goesL_ (some 39) rfl rfl Tryd.func74 (by kernel_rfl) rfl #[.agg #[.int .i64 a0_0, .slice A0_1 l0_1.length c0_1, .slice A0_2 l0_2.length c0_2], .int .i64 (Go.bits .xor .i64 x1_1 (ji17)), .slice A2 l2.length c2] rfl (by (try simp only [List.map_toArray, List.map_cons, List.map_nil]); first | done | (simp only [hji17]; rfl) | rfl | (simp only [List.length_drop, List.length_take]; rfl)) ?_; (with_reducible refine (dropperref05_Good.calls k1 a0_0 _ _ l0_1 _ _ l0_2 (Go.bits .xor .i64 x1_1 (ji17)) _ _ l2 true _ ?side1 ?side2 ?side3 ?side4 ?side5 ?side6 A18.out).mono ?_); (case side1 => exact cbz HR0_1); (case side2 => exact HC0_1.out); (case side3 => exact cbz HR0_2); (case side4 => exact HC0_2.out); (case side5 => exact cbz HR2); (case side6 => exact HC2.out); rintro e w21 ⟨rfl, hb⟩; refine ⟨_, rfl, ?_⟩; have n0_ := Aside0.mk (blk_below (g := gb530) blkz hb); have n1_ := Aside0.mk (below_step bel hb); clear BK530; clear HB; have BK530 := n0_; have HB := n1_; clear n0_ n1_; (try clear hb); (try clear hb2); (try clear hk); (try clear hi)))
         go_roundg k1
         case measure => have := HK1.out; omega
         case rel => exact ⟨(Go.bits .xor .i64 x1_1 (ji17)), (wrap64 (x11_1 + 1)), (by first | rfl | (simp; done) | (simp only [← hji17] <;> (first | rfl | simp)) | (simp [*]; done)), rsz, H', ⟨by have := HK1.out; omega⟩, ⟨by (with_reducible repeat (first | refine blk_drewN ?_ _ | refine blk_drew ?_ | refine blk_alloc ?_ _)); exact BK530.out⟩, ⟨by repeat (first | (with_reducible first | exact HB.out | apply below_alloc | apply pw_below_drewN | apply below_drew1 | refine below_set ?_ GE530.out) | exact HB.out)⟩⟩
        ·
         replace c19 := Bool.eq_false_iff.mpr c19
         subst c19
         have H1 : (some (false, 0)) = some (r1, r2) := by rw [if_neg (show ¬ (false = true) by decide)] at H; exact H
         clear H
         have H := H1
         clear H1
         simp only [Option.some.injEq, Prod.mk.injEq] at H
         obtain ⟨rfl, rfl⟩ := H
         have p533 : 0 ≤ (x11_1 : Int) := of_decide_eq_true asz
         have q533 : x11_1 < (l3.length : Int) := of_decide_eq_true asz
         obtain ⟨ad533, e533, hx533_0⟩ := Kd.at_int HR3.out x11_1 p533 q533
         cases e533
         replace hx533_0 := (HB.out.cell (World.block_lt_of_cell? w _ hx533_0)).trans hx533_0
         replace p533 := eq_true p533
         replace q533 := eq_true q533
         have hcz22_0 := blkc BK530.out 0 (.int .i64 a0_0) rfl
         have hcz22_1 := blkc BK530.out 1 (.slice A0_1 l0_1.length c0_1) rfl
         have hcz22_2 := blkc BK530.out 2 (.slice A0_2 l0_2.length c0_2) rfl
         have hfz22_0 := blk_frozen BK530.out 0
         have hfz22_1 := blk_frozen BK530.out 1
         have hfz22_2 := blk_frozen BK530.out 2
         go_wp2_with (first | ((with_reducible refine gate_callee (f := 74) rfl ?_); refine goesL_ (some 39) rfl rfl Tryd.func74 (by kernel_rfl) rfl #[.agg #[.int .i64 a0_0, .slice A0_1 l0_1.length c0_1, .slice A0_2 l0_2.length c0_2], .int .i64 (Go.bits .xor .i64 x1_1 (ji17)), .slice A2 l2.length c2] rfl (by (try simp only [List.map_toArray, List.map_cons, List.map_nil]); first | done | (simp only [hji17]; rfl) | rfl | (simp only [List.length_drop, List.length_take]; rfl)) ?_; (with_reducible refine (dropperref05_Good.calls k1 a0_0 _ _ l0_1 _ _ l0_2 (Go.bits .xor .i64 x1_1 (ji17)) _ _ l2 false _ ?side1 ?side2 ?side3 ?side4 ?side5 ?side6 A18.out).mono ?_); (case side1 => exact cbz HR0_1); (case side2 => exact HC0_1.out); (case side3 => exact cbz HR0_2); (case side4 => exact HC0_2.out); (case side5 => exact cbz HR2); (case side6 => exact HC2.out); rintro e w23 ⟨rfl, hb⟩; refine ⟨_, rfl, ?_⟩; have n0_ := Aside0.mk (blk_below (g := gb530) blkz hb); have n1_ := Aside0.mk (below_step bel hb); clear BK530; clear HB; have BK530 := n0_; have HB := n1_; clear n0_ n1_; (try clear hb); (try clear hb2); (try clear hk); (try clear hi)))
         go_ret2
         exact ⟨by first | rfl | (simp [errW_none, errW_some] <;> rfl) | (simp only [← hji17]; first | rfl | (simp [errW_none, errW_some] <;> rfl)) | (simp [*, errW_none, errW_some] <;> rfl), by repeat (first | (with_reducible first | exact HB.out | apply below_alloc | apply pw_below_drewN | apply below_drew1 | refine below_set ?_ GE530.out) | exact HB.out)⟩
       ·
        rw [if_neg c16] at H
        exact absurd H (by simp)
      ·
       rw [if_neg c15] at H
       exact absurd H (by simp)
     ·
      rw [if_neg c14] at H
      have c14b0 : decide (x11_1 < (l3.length : Int)) = false := decide_eq_false c14
      clear c14
      simp only [Option.some.injEq, Prod.mk.injEq] at H
      obtain ⟨rfl, rfl⟩ := H
      go_wp2
      go_ret2
      exact ⟨by first | rfl | (simp [errW_none, errW_some] <;> rfl) | (simp [*, errW_none, errW_some] <;> rfl), by repeat (first | (with_reducible first | exact HB.out | apply below_alloc | apply pw_below_drewN | apply below_drew1 | refine below_set ?_ GE530.out) | exact HB.out)⟩
  ·
   replace c8 := Bool.eq_false_iff.mpr c8
   subst c8
   have H1 : (some (false, 2)) = some (r1, r2) := by rw [if_neg (show ¬ (false = true) by decide)] at H; exact H
   clear H
   have H := H1
   clear H1
   simp only [Option.some.injEq, Prod.mk.injEq] at H
   obtain ⟨rfl, rfl⟩ := H
   go_enter Tryd.func33, Tryd.ntmps33
   go_wp2_with (first | ((with_reducible refine gate_dst (N := 4) rfl ?_); refine box_event ?hg (N := 4) ?hd (cs := #[.int .i64 a0_0, .slice A0_1 l0_1.length c0_1, .slice A0_2 l0_2.length c0_2]) (t := 25) ?hr ?_; (case hd => rfl); (case hg => rfl); (case hr => first | (go_simp; done) | (go_simp; rfl)); intro gb530 hg w24 hbox hb; have n0_ := Aside0.mk (below_step bel hb); have n1_ := Aside0.mk (hbox); have n2_ := Aside0.mk ((by rw [hg]; exact (below_size bel) : w.heap.size ≤ gb530)); have n3_ := n2_; clear HB; have HB := n0_; have BK530 := n1_; have GW530 := n2_; have GE530 := n3_; clear n0_ n1_ n2_ n3_; clear hb hbox hg; have hcz25_0 := blkc BK530.out 0 (.int .i64 a0_0) rfl; have hcz25_1 := blkc BK530.out 1 (.slice A0_1 l0_1.length c0_1) rfl; have hcz25_2 := blkc BK530.out 2 (.slice A0_2 l0_2.length c0_2) rfl; have hfz25_0 := blk_frozen BK530.out 0; have hfz25_1 := blk_frozen BK530.out 1; have hfz25_2 := blk_frozen BK530.out 2) | ((with_reducible refine gate_callee (f := 72) rfl ?_); refine goesL_ (some 15) rfl rfl Tryd.func72 (by kernel_rfl) rfl #[.agg #[.int .i64 a0_0, .slice A0_1 l0_1.length c0_1, .slice A0_2 l0_2.length c0_2], .int .i64 a1, .slice A2 l2.length c2] rfl mapz ?_; (with_reducible refine (dropperref05_begun.calls k a0_0 _ _ l0_1 _ _ l0_2 a1 _ _ l2 t531 _ ?side1 ?side2 ?side3 ?side4 ?side5 ?side6 A5.out).mono ?_); (case side1 => exact cbz HR0_1); (case side2 => exact HC0_1.out); (case side3 => exact cbz HR0_2); (case side4 => exact HC0_2.out); (case side5 => exact cbz HR2); (case side6 => exact HC2.out); rintro e w26 ⟨rfl, hb⟩; refine ⟨_, rfl, ?_⟩; have n0_ := Aside0.mk (blk_below (g := gb530) blkz hb); have n1_ := Aside0.mk (below_step bel hb); clear BK530; clear HB; have BK530 := n0_; have HB := n1_; clear n0_ n1_; (try clear hb); (try clear hb2); (try clear hk); (try clear hi); have hcz27_0 := blkc BK530.out 0 (.int .i64 a0_0) rfl; have hcz27_1 := blkc BK530.out 1 (.slice A0_1 l0_1.length c0_1) rfl; have hcz27_2 := blkc BK530.out 2 (.slice A0_2 l0_2.length c0_2) rfl; have hfz27_0 := blk_frozen BK530.out 0; have hfz27_1 := blk_frozen BK530.out 1; have hfz27_2 := blk_frozen BK530.out 2) | ((with_reducible refine gate_callee (f := 73) rfl ?_); refine goesL_ (some 21) rfl rfl Tryd.func73 (by kernel_rfl) rfl #[.agg #[.int .i64 a0_0, .slice A0_1 l0_1.length c0_1, .slice A0_2 l0_2.length c0_2], .slice A3 l3.length c3] rfl mapz ?_; (with_reducible refine (dropperref05_isList.calls k a0_0 _ _ l0_1 _ _ l0_2 _ _ l3 false _ ?side1 ?side2 ?side3 ?side4 ?side5 ?side6 A7.out).mono ?_); (case side1 => exact cbz HR0_1); (case side2 => exact HC0_1.out); (case side3 => exact cbz HR0_2); (case side4 => exact HC0_2.out); (case side5 => exact cbz HR3); (case side6 => exact HC3.out); rintro e w28 ⟨rfl, hb⟩; refine ⟨_, rfl, ?_⟩; have n0_ := Aside0.mk (blk_below (g := gb530) blkz hb); have n1_ := Aside0.mk (below_step bel hb); clear BK530; clear HB; have BK530 := n0_; have HB := n1_; clear n0_ n1_; (try clear hb); (try clear hb2); (try clear hk); (try clear hi)))
   go_ret2
   exact ⟨by first | rfl | (simp [errW_none, errW_some] <;> rfl) | (simp [*, errW_none, errW_some] <;> rfl), by repeat (first | (with_reducible first | exact HB.out | apply below_alloc | apply pw_below_drewN | apply below_drew1 | refine below_set ?_ GE530.out) | exact HB.out)⟩
 ·
  rw [if_neg c6] at H
  have c6b0 : (t531 == 0) = false := beq_eq_false_iff_ne.mpr c6
  have c6b1 : (t531 != 0) = true := bne_iff_ne.mpr c6
  simp only [Option.some.injEq, Prod.mk.injEq] at H
  obtain ⟨rfl, rfl⟩ := H
  go_enter Tryd.func33, Tryd.ntmps33
  go_wp2_with (first | ((with_reducible refine gate_dst (N := 4) rfl ?_); refine box_event ?hg (N := 4) ?hd (cs := #[.int .i64 a0_0, .slice A0_1 l0_1.length c0_1, .slice A0_2 l0_2.length c0_2]) (t := 25) ?hr ?_; (case hd => rfl); (case hg => rfl); (case hr => first | (go_simp; done) | (go_simp; rfl)); intro gb530 hg w29 hbox hb; have n0_ := Aside0.mk (below_step bel hb); have n1_ := Aside0.mk (hbox); have n2_ := Aside0.mk ((by rw [hg]; exact (below_size bel) : w.heap.size ≤ gb530)); have n3_ := n2_; clear HB; have HB := n0_; have BK530 := n1_; have GW530 := n2_; have GE530 := n3_; clear n0_ n1_ n2_ n3_; clear hb hbox hg; have hcz30_0 := blkc BK530.out 0 (.int .i64 a0_0) rfl; have hcz30_1 := blkc BK530.out 1 (.slice A0_1 l0_1.length c0_1) rfl; have hcz30_2 := blkc BK530.out 2 (.slice A0_2 l0_2.length c0_2) rfl; have hfz30_0 := blk_frozen BK530.out 0; have hfz30_1 := blk_frozen BK530.out 1; have hfz30_2 := blk_frozen BK530.out 2) | ((with_reducible refine gate_callee (f := 72) rfl ?_); refine goesL_ (some 15) rfl rfl Tryd.func72 (by kernel_rfl) rfl #[.agg #[.int .i64 a0_0, .slice A0_1 l0_1.length c0_1, .slice A0_2 l0_2.length c0_2], .int .i64 a1, .slice A2 l2.length c2] rfl mapz ?_; (with_reducible refine (dropperref05_begun.calls k a0_0 _ _ l0_1 _ _ l0_2 a1 _ _ l2 t531 _ ?side1 ?side2 ?side3 ?side4 ?side5 ?side6 A5.out).mono ?_); (case side1 => exact cbz HR0_1); (case side2 => exact HC0_1.out); (case side3 => exact cbz HR0_2); (case side4 => exact HC0_2.out); (case side5 => exact cbz HR2); (case side6 => exact HC2.out); rintro e w31 ⟨rfl, hb⟩; refine ⟨_, rfl, ?_⟩; have n0_ := Aside0.mk (blk_below (g := gb530) blkz hb); have n1_ := Aside0.mk (below_step bel hb); clear BK530; clear HB; have BK530 := n0_; have HB := n1_; clear n0_ n1_; (try clear hb); (try clear hb2); (try clear hk); (try clear hi)))
  go_ret2
  exact ⟨by first | rfl | (simp [errW_none, errW_some] <;> rfl) | (simp [*, errW_none, errW_some] <;> rfl), by repeat (first | (with_reducible first | exact HB.out | apply below_alloc | apply pw_below_drewN | apply below_drew1 | refine below_set ?_ GE530.out) | exact HB.out)⟩

end Go.Proofs.YtoilhnmdemnknaaDoor.XFeed

-- Written by wip/xprint.py of this repo, over the kit's print.py: out of the translation; the oracles in it are by hand. Not trusted: Lean checks it.
namespace Go.Proofs.YtoilhnmdemnknaaDoor.XFeed
open Go.RowKit Go.Proofs.YtoilhnmdemnknaaDoorW.PrintWords Go.Proofs.YtoilhnmdemnknaaDoorW.PrintLast Go.Proofs.YtoilhnmdemnknaaDoorW.PrintMore
attribute [local go_sem] max2_int min2_int max_two min_two max_three min_three max_four min_four   -- for this text's walks alone
set_option linter.unusedVariables false
set_option linter.unusedSimpArgs false

/-! ### feed_After: function 34 -/
def feed_After.l0 : Nat → Int → List Int → Int → Int → Option (Int × Int)
 | 0, _, _, _, _ => none
 | k + 1, x1, x27, x28, x29 => if x29 < x28 then (if 0 ≤ x29 then (if x29 < (x27.length : Int) then (if 0 ≤ (rd x27 x29) then (feed_After.l0 k (Go.bits .xor .i64 x1 (shl .i64 1 (rd x27 x29))) x27 x28 (wrap64 (x29 + 1))) else (none)) else (none)) else (none)) else (some (x1, 0))
def feed_After.f (k : Nat) (a0_0 : Int) (l0_1 : List (S69)) (l0_2 : List (S71)) (a1 : Int) (l2 : List Int) : Option (Int × Int) := (feed_open.f a0_0 l0_1 l0_2 a1).bind fun bt536 => (if bt536.2 = 0 then ((feed_grid_switches.f bt536.1 l0_1 l0_2 l2).bind fun t545 => (if t545 = true then (feed_After.l0 k a1 l2 (l2.length : Int) 0) else (some (0, 2)))) else (some (0, bt536.2)))
theorem feed_After.mono_l : ∀ k, (∀ y0 y1 y2 y3, LeO (feed_After.l0 k y0 y1 y2 y3) (feed_After.l0 (k + 1) y0 y1 y2 y3))
 | 0 => fun _ _ _ _ r h => by simp [feed_After.l0] at h
 | k + 1 => by
  have ih0 := feed_After.mono_l k
  ·
   intro y0 y1 y2 y3
   unfold feed_After.l0
   repeat' first
   | (with_reducible exact ih0 _ _ _ _)
   | (with_reducible exact LeO.refl _)
   | (with_reducible exact LeO.none _)
   | (with_reducible refine LeO.ite ?_ ?_)
   | (with_reducible refine LeO.bind ?_ (fun _ => ?_))
   | exact ih0 _ _ _ _
   | exact LeO.none _
   | refine LeO.ite ?_ ?_
   | refine LeO.bind ?_ (fun _ => ?_)
theorem feed_After.mono : ∀ a0 a1 a2 a3 a4 k, LeO (feed_After.f k a0 a1 a2 a3 a4) (feed_After.f (k + 1) a0 a1 a2 a3 a4) := by
 intro a0 a1 a2 a3 a4 k
 have ih0 := feed_After.mono_l k
 unfold feed_After.f
 repeat' first
   | (with_reducible exact ih0 _ _ _ _)
   | (with_reducible exact LeO.refl _)
   | (with_reducible exact LeO.none _)
   | (with_reducible refine LeO.ite ?_ ?_)
   | (with_reducible refine LeO.bind ?_ (fun _ => ?_))
   | exact ih0 _ _ _ _
   | exact LeO.none _
   | refine LeO.ite ?_ ?_
   | refine LeO.bind ?_ (fun _ => ?_)
set_option maxHeartbeats 8000000 in
set_option maxRecDepth 100000 in
theorem feed_After.calls (k : Nat) (a0_0 : Int) (A0_1 : Option Addr) (c0_1 : Nat) (l0_1 : List (S69)) (A0_2 : Option Addr) (c0_2 : Nat) (l0_2 : List (S71)) (a1 : Int) (A2 : Option Addr) (c2 : Nat) (l2 : List Int) (r1 : Int) (r2 : Int) (w : World) (hr0_1 : Kd.C k69 w A0_1 l0_1.length l0_1) (hc0_1 : l0_1.length ≤ c0_1) (hr0_2 : Kd.C k71 w A0_2 l0_2.length l0_2) (hc0_2 : l0_2.length ≤ c0_2) (hr2 : Kd.C (Kd.int .i64) w A2 l2.length l2) (hc2 : l2.length ≤ c2) (h : feed_After.f k a0_0 l0_1 l0_2 a1 l2 = some (r1, r2)) :
  Calls Tryd.prog 34 #[.agg #[.int .i64 a0_0, .slice A0_1 l0_1.length c0_1, .slice A0_2 l0_2.length c0_2], .int .i64 a1, .slice A2 l2.length c2] w fun e w' => e = .returned (.tuple #[.int .i64 r1, .int .i64 r2]) ∧ Below w.heap.size w w' := by
 have hu25 := Tryd.underlying25
 have hu73 := Tryd.underlying73
 have HR0_1 := Aside0.mk hr0_1
 have HC0_1 := Aside0.mk hc0_1
 clear hr0_1 hc0_1
 have HR0_2 := Aside0.mk hr0_2
 have HC0_2 := Aside0.mk hc0_2
 clear hr0_2 hc0_2
 have HR2 := Aside0.mk hr2
 have HC2 := Aside0.mk hc2
 clear hr2 hc2
 have HB := Aside0.mk (Below.refl w.heap.size w)
 have H : ((feed_open.f a0_0 l0_1 l0_2 a1).bind fun bt536 => (if bt536.2 = 0 then ((feed_grid_switches.f bt536.1 l0_1 l0_2 l2).bind fun t545 => (if t545 = true then (feed_After.l0 k a1 l2 (l2.length : Int) 0) else (some (0, 2)))) else (some (0, bt536.2)))) = some (r1, r2) := h
 clear h
 replace H := Option.bind_eq_some_iff.mp H
 obtain ⟨⟨t536, t543⟩, A40, H⟩ := H
 replace H : (if t543 = 0 then ((feed_grid_switches.f t536 l0_1 l0_2 l2).bind fun t545 => (if t545 = true then (feed_After.l0 k a1 l2 (l2.length : Int) 0) else (some (0, 2)))) else (some (0, t543))) = some (r1, r2) := H
 have A4 := Aside0.mk A40
 clear A40
 by_cases c5 : t543 = 0
 ·
  rw [if_pos c5] at H
  have c5b0 : (t543 == 0) = true := beq_iff_eq.mpr c5
  have c5b1 : (t543 != 0) = false := bne_eq_false_iff_eq.mpr c5
  clear c5
  replace H := Option.bind_eq_some_iff.mp H
  obtain ⟨t545, A60, H⟩ := H
  replace H : (if t545 = true then (feed_After.l0 k a1 l2 (l2.length : Int) 0) else (some (0, 2))) = some (r1, r2) := H
  have A6 := Aside0.mk A60
  clear A60
  by_cases c7 : t545 = true
  ·
   subst c7
   have H1 : (feed_After.l0 k a1 l2 (l2.length : Int) 0) = some (r1, r2) := by rw [if_pos rfl] at H; exact H
   clear H
   have H := H1
   clear H1
   have H' := Aside0.mk H
   clear H
   go_enter Tryd.func34, Tryd.ntmps34
   go_wp2_with (first | ((with_reducible refine gate_dst (N := 3) rfl ?_); refine box_event ?hg (N := 3) ?hd (cs := #[.int .i64 a0_0, .slice A0_1 l0_1.length c0_1, .slice A0_2 l0_2.length c0_2]) (t := 25) ?hr ?_; (case hd => rfl); (case hg => rfl); (case hr => first | (go_simp; done) | (go_simp; rfl)); intro gb535 hg w8 hbox hb; have n0_ := Aside0.mk (below_step bel hb); have n1_ := Aside0.mk (hbox); have n2_ := Aside0.mk ((by rw [hg]; exact (below_size bel) : w.heap.size ≤ gb535)); have n3_ := n2_; clear HB; have HB := n0_; have BK535 := n1_; have GW535 := n2_; have GE535 := n3_; clear n0_ n1_ n2_ n3_; clear hb hbox hg; have hcz9_0 := blkc BK535.out 0 (.int .i64 a0_0) rfl; have hcz9_1 := blkc BK535.out 1 (.slice A0_1 l0_1.length c0_1) rfl; have hcz9_2 := blkc BK535.out 2 (.slice A0_2 l0_2.length c0_2) rfl; have hfz9_0 := blk_frozen BK535.out 0; have hfz9_1 := blk_frozen BK535.out 1; have hfz9_2 := blk_frozen BK535.out 2) | ((with_reducible refine gate_callee (f := 46) rfl ?_); refine goesL_ (some 15) rfl rfl Tryd.func46 (by kernel_rfl) rfl #[.agg #[.int .i64 a0_0, .slice A0_1 l0_1.length c0_1, .slice A0_2 l0_2.length c0_2], .int .i64 a1] rfl mapz ?_; (with_reducible refine (feed_open.calls a0_0 _ _ l0_1 _ _ l0_2 a1 t536 t543 _ ?side1 ?side2 ?side3 ?side4 A4.out).mono ?_); (case side1 => exact cbz HR0_1); (case side2 => exact HC0_1.out); (case side3 => exact cbz HR0_2); (case side4 => exact HC0_2.out); rintro e w10 ⟨rfl, hb⟩; refine ⟨_, rfl, ?_⟩; have n0_ := Aside0.mk (blk_below (g := gb535) blkz hb); have n1_ := Aside0.mk (below_step bel hb); clear BK535; clear HB; have BK535 := n0_; have HB := n1_; clear n0_ n1_; (try clear hb); (try clear hb2); (try clear hk); (try clear hi)) | ((with_reducible refine gate_dst (N := 8) rfl ?_); refine box_event ?hg (N := 8) ?hd (cs := #[.int .i64 0, .slice none 0 0, .slice none 0 0]) (t := 73) ?hr ?_; (case hd => rfl); (case hg => rfl); (case hr => first | (go_simp; done) | (go_simp; rfl)); intro gb544 hg w11 hbox hb; have n0_ := Aside0.mk (blk_below (g := gb535) blkz hb); have n1_ := Aside0.mk (below_step bel hb); have n2_ := Aside0.mk (hbox); have n3_ := Aside0.mk ((by rw [hg]; exact (below_size bel) : w.heap.size ≤ gb544)); have n4_ := n3_; have n5_ := Aside0.mk ((by rw [hg]; exact Nat.ne_of_lt (blk_lt (g := gb535) (o := .cells #[.int .i64 a0_0, .slice A0_1 l0_1.length c0_1, .slice A0_2 l0_2.length c0_2] 25 (0, 0)) blkz) : gb535 ≠ gb544)); have n6_ := Aside0.mk ((by rw [hg]; exact Nat.ne_of_gt (blk_lt (g := gb535) (o := .cells #[.int .i64 a0_0, .slice A0_1 l0_1.length c0_1, .slice A0_2 l0_2.length c0_2] 25 (0, 0)) blkz) : gb544 ≠ gb535)); clear BK535; clear HB; have BK535 := n0_; have HB := n1_; have BK544 := n2_; have GW544 := n3_; have GE544 := n4_; have NB535_544 := n5_; have NB544_535 := n6_; clear n0_ n1_ n2_ n3_ n4_ n5_ n6_; clear hb hbox hg; have hnb12 := NB544_535.out; have hnc12 := NB535_544.out; have hcz13_0 := blkc BK544.out 0 (.int .i64 0) rfl; have hcz13_1 := blkc BK544.out 1 (.slice none 0 0) rfl; have hcz13_2 := blkc BK544.out 2 (.slice none 0 0) rfl; have hfz13_0 := blk_frozen BK544.out 0; have hfz13_1 := blk_frozen BK544.out 1; have hfz13_2 := blk_frozen BK544.out 2) | ((with_reducible refine gate_callee (f := 70) rfl ?_); refine goesL_ (some 25) rfl rfl Tryd.func70 (by kernel_rfl) rfl #[.agg #[.int .i64 t536, .slice A0_1 l0_1.length c0_1, .slice A0_2 l0_2.length c0_2], .slice A2 l2.length c2] rfl mapz ?_; (with_reducible refine (feed_grid_switches.calls t536 _ _ l0_1 _ _ l0_2 _ _ l2 true _ ?side1 ?side2 ?side3 ?side4 ?side5 ?side6 A6.out).mono ?_); (case side1 => exact cbz HR0_1); (case side2 => exact HC0_1.out); (case side3 => exact cbz HR0_2); (case side4 => exact HC0_2.out); (case side5 => exact cbz HR2); (case side6 => exact HC2.out); rintro e w14 ⟨rfl, hb⟩; refine ⟨_, rfl, ?_⟩; have n0_ := Aside0.mk (blk_below (g := gb535) (o := .cells #[.int .i64 a0_0, .slice A0_1 l0_1.length c0_1, .slice A0_2 l0_2.length c0_2] 25 (0, 0)) (by (with_reducible repeat (first | refine blk_drewN ?_ _ | refine blk_drew ?_ | refine blk_alloc ?_ _)); refine blk_far ?_ NB535_544.out _; (with_reducible repeat (first | refine blk_drewN ?_ _ | refine blk_drew ?_ | refine blk_alloc ?_ _)); refine blk_far ?_ NB535_544.out _; (with_reducible repeat (first | refine blk_drewN ?_ _ | refine blk_drew ?_ | refine blk_alloc ?_ _)); refine blk_far ?_ NB535_544.out _; (with_reducible repeat (first | refine blk_drewN ?_ _ | refine blk_drew ?_ | refine blk_alloc ?_ _)); exact BK535.out) hb); have n1_ := Aside0.mk (blk_below (g := gb544) (o := .cells #[.int .i64 t536, .slice A0_1 l0_1.length c0_1, .slice A0_2 l0_2.length c0_2] 73 (0, 0)) (by (with_reducible repeat (first | refine blk_drewN ?_ _ | refine blk_drew ?_ | refine blk_alloc ?_ _)); refine blk_put (cs := #[.int .i64 t536, .slice A0_1 l0_1.length c0_1, .slice none 0 0]) ?_ 2 _ rfl; (with_reducible repeat (first | refine blk_drewN ?_ _ | refine blk_drew ?_ | refine blk_alloc ?_ _)); refine blk_put (cs := #[.int .i64 t536, .slice none 0 0, .slice none 0 0]) ?_ 1 _ rfl; (with_reducible repeat (first | refine blk_drewN ?_ _ | refine blk_drew ?_ | refine blk_alloc ?_ _)); refine blk_put (cs := #[.int .i64 0, .slice none 0 0, .slice none 0 0]) ?_ 0 _ rfl; (with_reducible repeat (first | refine blk_drewN ?_ _ | refine blk_drew ?_ | refine blk_alloc ?_ _)); exact BK544.out) hb); have n2_ := Aside0.mk (below_step bel hb); clear BK535; clear BK544; clear HB; have BK535 := n0_; have BK544 := n1_; have HB := n2_; clear n0_ n1_ n2_; (try clear hb); (try clear hb2); (try clear hk); (try clear hi)))
   go_loopg [1, 29] k (fun kq v1 v29 w' => ∃ (x1_1 : Int) (x29_1 : Int), v1 = .int .i64 x1_1 ∧ v29 = .int .i64 x29_1 ∧ Aside0 (feed_After.l0 kq x1_1 l2 (l2.length : Int) x29_1 = some (r1, r2)) ∧ Aside0 (kq ≤ k) ∧ Aside0 (w'.heap[gb535]? = some (.cells #[.int .i64 a0_0, (.slice A0_1 l0_1.length c0_1), (.slice A0_2 l0_2.length c0_2)] 25 (0, 0))) ∧ Aside0 (w'.heap[gb544]? = some (.cells #[.int .i64 t536, (.slice A0_1 l0_1.length c0_1), (.slice A0_2 l0_2.length c0_2)] 73 (0, 0))) ∧ Aside0 (Below w.heap.size w w'))
   case atStart => exact ⟨(a1), (0), rsz, rsz, H', ⟨Nat.le_refl _⟩, ⟨by (with_reducible repeat (first | refine blk_drewN ?_ _ | refine blk_drew ?_ | refine blk_alloc ?_ _)); exact BK535.out⟩, ⟨by (with_reducible repeat (first | refine blk_drewN ?_ _ | refine blk_drew ?_ | refine blk_alloc ?_ _)); exact BK544.out⟩, ⟨by repeat (first | (with_reducible first | exact HB.out | apply below_alloc | apply pw_below_drewN | apply below_drew1 | refine below_set ?_ GE535.out | refine below_set ?_ GE544.out) | exact HB.out)⟩⟩
   case round =>
    clear H'
    try clear c1
    try clear c2
    try clear p2
    try clear c3
    try clear c4
    try clear c5
    try clear c5b0
    try clear c5b1
    try clear c7
    try clear c12
    try clear hcz13_0
    try clear hcz13_1
    try clear hcz13_2
    try clear hcz9_0
    try clear hcz9_1
    try clear hcz9_2
    try clear hfz13_0
    try clear hfz13_1
    try clear hfz13_2
    try clear hfz9_0
    try clear hfz9_1
    try clear hfz9_2
    obtain ⟨x1_1, x29_1, rfl, rfl, HA, HK1, BK535, BK544, HB⟩ := hrel
    cases gk with
    | zero => exact absurd HA.out (by simp [feed_After.l0])
    | succ k1 =>
     have H := HA.out
     clear HA
     simp only [feed_After.l0] at H
     by_cases c15 : x29_1 < (l2.length : Int)
     ·
      rw [if_pos c15] at H
      have c15b0 : decide (x29_1 < (l2.length : Int)) = true := decide_eq_true c15
      clear c15
      by_cases c16 : 0 ≤ x29_1
      ·
       rw [if_pos c16] at H
       have c16b0 : decide (0 ≤ x29_1) = true := decide_eq_true c16
       clear c16
       by_cases c17 : x29_1 < (l2.length : Int)
       ·
        rw [if_pos c17] at H
        have c17b0 : decide (x29_1 < (l2.length : Int)) = true := decide_eq_true c17
        clear c17
        by_cases c18 : 0 ≤ (rd l2 x29_1)
        ·
         rw [if_pos c18] at H
         have c18b0 := eq_true c18
         have c18b1 : decide (0 ≤ (rd l2 x29_1)) = true := decide_eq_true c18
         clear c18
         obtain ⟨ji19, hji19⟩ : ∃ j_ : Int, (shl .i64 1 (rd l2 x29_1)) = j_ := ⟨_, rfl⟩
         replace H : (feed_After.l0 k1 (Go.bits .xor .i64 x1_1 (ji19)) l2 (l2.length : Int) (wrap64 (x29_1 + 1))) = some (r1, r2) := by first | (rw [hji19] at H; exact H) | (simp only [hji19] at H ⊢; exact H)
         have hji19_ : (IntKind.i64.wrap (1 * 2 ^ min (rd l2 x29_1).toNat 64)) = ji19 := hji19
         have hji19z : (rd l2 x29_1) ≤ 64 → (IntKind.i64.wrap (1 * 2 ^ (rd l2 x29_1).toNat)) = ji19 := shl_small hji19
         have hji19u : (IntKind.i64.wrap (2 ^ min (rd l2 x29_1).toNat 64)) = ji19 := by have h_ := hji19_; rw [Int.one_mul] at h_; exact h_
         have hji19v : (rd l2 x29_1) ≤ 64 → (IntKind.i64.wrap (2 ^ (rd l2 x29_1).toNat)) = ji19 := fun hle_ => by have h_ := hji19z hle_; rw [Int.one_mul] at h_; exact h_
         have hji19y : (wrap64 (1 * 2 ^ min (rd l2 x29_1).toNat 64)) = ji19 := (i64_w _).symm.trans hji19_
         have hji19x : (rd l2 x29_1) ≤ 64 → (wrap64 (1 * 2 ^ (rd l2 x29_1).toNat)) = ji19 := fun h_ => (i64_w _).symm.trans (hji19z h_)
         have H' := Aside0.mk H
         clear H
         have p546 : 0 ≤ (x29_1 : Int) := of_decide_eq_true asz
         have q546 : x29_1 < (l2.length : Int) := of_decide_eq_true asz
         obtain ⟨ad546, e546, hx546_0⟩ := Kd.at_int HR2.out x29_1 p546 q546
         cases e546
         replace hx546_0 := (HB.out.cell (World.block_lt_of_cell? w _ hx546_0)).trans hx546_0
         replace p546 := eq_true p546
         replace q546 := eq_true q546
         go_wp2
         go_roundg k1
         case measure => have := HK1.out; omega
         case rel => exact ⟨(Go.bits .xor .i64 x1_1 (ji19)), (wrap64 (x29_1 + 1)), (by first | rfl | (simp; done) | (simp only [← hji19] <;> (first | rfl | simp)) | (simp [*]; done)), rsz, H', ⟨by have := HK1.out; omega⟩, ⟨by (with_reducible repeat (first | refine blk_drewN ?_ _ | refine blk_drew ?_ | refine blk_alloc ?_ _)); exact BK535.out⟩, ⟨by (with_reducible repeat (first | refine blk_drewN ?_ _ | refine blk_drew ?_ | refine blk_alloc ?_ _)); exact BK544.out⟩, ⟨by repeat (first | (with_reducible first | exact HB.out | apply below_alloc | apply pw_below_drewN | apply below_drew1 | refine below_set ?_ GE535.out | refine below_set ?_ GE544.out) | exact HB.out)⟩⟩
        ·
         rw [if_neg c18] at H
         exact absurd H (by simp)
       ·
        rw [if_neg c17] at H
        exact absurd H (by simp)
      ·
       rw [if_neg c16] at H
       exact absurd H (by simp)
     ·
      rw [if_neg c15] at H
      have c15b0 : decide (x29_1 < (l2.length : Int)) = false := decide_eq_false c15
      clear c15
      simp only [Option.some.injEq, Prod.mk.injEq] at H
      obtain ⟨rfl, rfl⟩ := H
      go_wp2
      go_ret2
      exact ⟨by first | rfl | (simp [errW_none, errW_some] <;> rfl) | (simp [*, errW_none, errW_some] <;> rfl), by repeat (first | (with_reducible first | exact HB.out | apply below_alloc | apply pw_below_drewN | apply below_drew1 | refine below_set ?_ GE535.out | refine below_set ?_ GE544.out) | exact HB.out)⟩
  ·
   replace c7 := Bool.eq_false_iff.mpr c7
   subst c7
   have H1 : (some (0, 2)) = some (r1, r2) := by rw [if_neg (show ¬ (false = true) by decide)] at H; exact H
   clear H
   have H := H1
   clear H1
   simp only [Option.some.injEq, Prod.mk.injEq] at H
   obtain ⟨rfl, rfl⟩ := H
   go_enter Tryd.func34, Tryd.ntmps34
   go_wp2_with (first | ((with_reducible refine gate_dst (N := 3) rfl ?_); refine box_event ?hg (N := 3) ?hd (cs := #[.int .i64 a0_0, .slice A0_1 l0_1.length c0_1, .slice A0_2 l0_2.length c0_2]) (t := 25) ?hr ?_; (case hd => rfl); (case hg => rfl); (case hr => first | (go_simp; done) | (go_simp; rfl)); intro gb535 hg w20 hbox hb; have n0_ := Aside0.mk (below_step bel hb); have n1_ := Aside0.mk (hbox); have n2_ := Aside0.mk ((by rw [hg]; exact (below_size bel) : w.heap.size ≤ gb535)); have n3_ := n2_; clear HB; have HB := n0_; have BK535 := n1_; have GW535 := n2_; have GE535 := n3_; clear n0_ n1_ n2_ n3_; clear hb hbox hg; have hcz21_0 := blkc BK535.out 0 (.int .i64 a0_0) rfl; have hcz21_1 := blkc BK535.out 1 (.slice A0_1 l0_1.length c0_1) rfl; have hcz21_2 := blkc BK535.out 2 (.slice A0_2 l0_2.length c0_2) rfl; have hfz21_0 := blk_frozen BK535.out 0; have hfz21_1 := blk_frozen BK535.out 1; have hfz21_2 := blk_frozen BK535.out 2) | ((with_reducible refine gate_callee (f := 46) rfl ?_); refine goesL_ (some 15) rfl rfl Tryd.func46 (by kernel_rfl) rfl #[.agg #[.int .i64 a0_0, .slice A0_1 l0_1.length c0_1, .slice A0_2 l0_2.length c0_2], .int .i64 a1] rfl mapz ?_; (with_reducible refine (feed_open.calls a0_0 _ _ l0_1 _ _ l0_2 a1 t536 t543 _ ?side1 ?side2 ?side3 ?side4 A4.out).mono ?_); (case side1 => exact cbz HR0_1); (case side2 => exact HC0_1.out); (case side3 => exact cbz HR0_2); (case side4 => exact HC0_2.out); rintro e w22 ⟨rfl, hb⟩; refine ⟨_, rfl, ?_⟩; have n0_ := Aside0.mk (blk_below (g := gb535) blkz hb); have n1_ := Aside0.mk (below_step bel hb); clear BK535; clear HB; have BK535 := n0_; have HB := n1_; clear n0_ n1_; (try clear hb); (try clear hb2); (try clear hk); (try clear hi)) | ((with_reducible refine gate_dst (N := 8) rfl ?_); refine box_event ?hg (N := 8) ?hd (cs := #[.int .i64 0, .slice none 0 0, .slice none 0 0]) (t := 73) ?hr ?_; (case hd => rfl); (case hg => rfl); (case hr => first | (go_simp; done) | (go_simp; rfl)); intro gb544 hg w23 hbox hb; have n0_ := Aside0.mk (blk_below (g := gb535) blkz hb); have n1_ := Aside0.mk (below_step bel hb); have n2_ := Aside0.mk (hbox); have n3_ := Aside0.mk ((by rw [hg]; exact (below_size bel) : w.heap.size ≤ gb544)); have n4_ := n3_; have n5_ := Aside0.mk ((by rw [hg]; exact Nat.ne_of_lt (blk_lt (g := gb535) (o := .cells #[.int .i64 a0_0, .slice A0_1 l0_1.length c0_1, .slice A0_2 l0_2.length c0_2] 25 (0, 0)) blkz) : gb535 ≠ gb544)); have n6_ := Aside0.mk ((by rw [hg]; exact Nat.ne_of_gt (blk_lt (g := gb535) (o := .cells #[.int .i64 a0_0, .slice A0_1 l0_1.length c0_1, .slice A0_2 l0_2.length c0_2] 25 (0, 0)) blkz) : gb544 ≠ gb535)); clear BK535; clear HB; have BK535 := n0_; have HB := n1_; have BK544 := n2_; have GW544 := n3_; have GE544 := n4_; have NB535_544 := n5_; have NB544_535 := n6_; clear n0_ n1_ n2_ n3_ n4_ n5_ n6_; clear hb hbox hg; have hnb24 := NB544_535.out; have hnc24 := NB535_544.out; have hcz25_0 := blkc BK544.out 0 (.int .i64 0) rfl; have hcz25_1 := blkc BK544.out 1 (.slice none 0 0) rfl; have hcz25_2 := blkc BK544.out 2 (.slice none 0 0) rfl; have hfz25_0 := blk_frozen BK544.out 0; have hfz25_1 := blk_frozen BK544.out 1; have hfz25_2 := blk_frozen BK544.out 2) | ((with_reducible refine gate_callee (f := 70) rfl ?_); refine goesL_ (some 25) rfl rfl Tryd.func70 (by kernel_rfl) rfl #[.agg #[.int .i64 t536, .slice A0_1 l0_1.length c0_1, .slice A0_2 l0_2.length c0_2], .slice A2 l2.length c2] rfl mapz ?_; (with_reducible refine (feed_grid_switches.calls t536 _ _ l0_1 _ _ l0_2 _ _ l2 false _ ?side1 ?side2 ?side3 ?side4 ?side5 ?side6 A6.out).mono ?_); (case side1 => exact cbz HR0_1); (case side2 => exact HC0_1.out); (case side3 => exact cbz HR0_2); (case side4 => exact HC0_2.out); (case side5 => exact cbz HR2); (case side6 => exact HC2.out); rintro e w26 ⟨rfl, hb⟩; refine ⟨_, rfl, ?_⟩; have n0_ := Aside0.mk (blk_below (g := gb535) (o := .cells #[.int .i64 a0_0, .slice A0_1 l0_1.length c0_1, .slice A0_2 l0_2.length c0_2] 25 (0, 0)) (by (with_reducible repeat (first | refine blk_drewN ?_ _ | refine blk_drew ?_ | refine blk_alloc ?_ _)); refine blk_far ?_ NB535_544.out _; (with_reducible repeat (first | refine blk_drewN ?_ _ | refine blk_drew ?_ | refine blk_alloc ?_ _)); refine blk_far ?_ NB535_544.out _; (with_reducible repeat (first | refine blk_drewN ?_ _ | refine blk_drew ?_ | refine blk_alloc ?_ _)); refine blk_far ?_ NB535_544.out _; (with_reducible repeat (first | refine blk_drewN ?_ _ | refine blk_drew ?_ | refine blk_alloc ?_ _)); exact BK535.out) hb); have n1_ := Aside0.mk (blk_below (g := gb544) (o := .cells #[.int .i64 t536, .slice A0_1 l0_1.length c0_1, .slice A0_2 l0_2.length c0_2] 73 (0, 0)) (by (with_reducible repeat (first | refine blk_drewN ?_ _ | refine blk_drew ?_ | refine blk_alloc ?_ _)); refine blk_put (cs := #[.int .i64 t536, .slice A0_1 l0_1.length c0_1, .slice none 0 0]) ?_ 2 _ rfl; (with_reducible repeat (first | refine blk_drewN ?_ _ | refine blk_drew ?_ | refine blk_alloc ?_ _)); refine blk_put (cs := #[.int .i64 t536, .slice none 0 0, .slice none 0 0]) ?_ 1 _ rfl; (with_reducible repeat (first | refine blk_drewN ?_ _ | refine blk_drew ?_ | refine blk_alloc ?_ _)); refine blk_put (cs := #[.int .i64 0, .slice none 0 0, .slice none 0 0]) ?_ 0 _ rfl; (with_reducible repeat (first | refine blk_drewN ?_ _ | refine blk_drew ?_ | refine blk_alloc ?_ _)); exact BK544.out) hb); have n2_ := Aside0.mk (below_step bel hb); clear BK535; clear BK544; clear HB; have BK535 := n0_; have BK544 := n1_; have HB := n2_; clear n0_ n1_ n2_; (try clear hb); (try clear hb2); (try clear hk); (try clear hi)))
   go_ret2
   exact ⟨by first | rfl | (simp [errW_none, errW_some] <;> rfl) | (simp [*, errW_none, errW_some] <;> rfl), by repeat (first | (with_reducible first | exact HB.out | apply below_alloc | apply pw_below_drewN | apply below_drew1 | refine below_set ?_ GE535.out | refine below_set ?_ GE544.out) | exact HB.out)⟩
 ·
  rw [if_neg c5] at H
  have c5b0 : (t543 == 0) = false := beq_eq_false_iff_ne.mpr c5
  have c5b1 : (t543 != 0) = true := bne_iff_ne.mpr c5
  simp only [Option.some.injEq, Prod.mk.injEq] at H
  obtain ⟨rfl, rfl⟩ := H
  go_enter Tryd.func34, Tryd.ntmps34
  go_wp2_with (first | ((with_reducible refine gate_dst (N := 3) rfl ?_); refine box_event ?hg (N := 3) ?hd (cs := #[.int .i64 a0_0, .slice A0_1 l0_1.length c0_1, .slice A0_2 l0_2.length c0_2]) (t := 25) ?hr ?_; (case hd => rfl); (case hg => rfl); (case hr => first | (go_simp; done) | (go_simp; rfl)); intro gb535 hg w27 hbox hb; have n0_ := Aside0.mk (below_step bel hb); have n1_ := Aside0.mk (hbox); have n2_ := Aside0.mk ((by rw [hg]; exact (below_size bel) : w.heap.size ≤ gb535)); have n3_ := n2_; clear HB; have HB := n0_; have BK535 := n1_; have GW535 := n2_; have GE535 := n3_; clear n0_ n1_ n2_ n3_; clear hb hbox hg; have hcz28_0 := blkc BK535.out 0 (.int .i64 a0_0) rfl; have hcz28_1 := blkc BK535.out 1 (.slice A0_1 l0_1.length c0_1) rfl; have hcz28_2 := blkc BK535.out 2 (.slice A0_2 l0_2.length c0_2) rfl; have hfz28_0 := blk_frozen BK535.out 0; have hfz28_1 := blk_frozen BK535.out 1; have hfz28_2 := blk_frozen BK535.out 2) | ((with_reducible refine gate_callee (f := 46) rfl ?_); refine goesL_ (some 15) rfl rfl Tryd.func46 (by kernel_rfl) rfl #[.agg #[.int .i64 a0_0, .slice A0_1 l0_1.length c0_1, .slice A0_2 l0_2.length c0_2], .int .i64 a1] rfl mapz ?_; (with_reducible refine (feed_open.calls a0_0 _ _ l0_1 _ _ l0_2 a1 t536 t543 _ ?side1 ?side2 ?side3 ?side4 A4.out).mono ?_); (case side1 => exact cbz HR0_1); (case side2 => exact HC0_1.out); (case side3 => exact cbz HR0_2); (case side4 => exact HC0_2.out); rintro e w29 ⟨rfl, hb⟩; refine ⟨_, rfl, ?_⟩; have n0_ := Aside0.mk (blk_below (g := gb535) blkz hb); have n1_ := Aside0.mk (below_step bel hb); clear BK535; clear HB; have BK535 := n0_; have HB := n1_; clear n0_ n1_; (try clear hb); (try clear hb2); (try clear hk); (try clear hi)) | ((with_reducible refine gate_dst (N := 8) rfl ?_); refine box_event ?hg (N := 8) ?hd (cs := #[.int .i64 0, .slice none 0 0, .slice none 0 0]) (t := 73) ?hr ?_; (case hd => rfl); (case hg => rfl); (case hr => first | (go_simp; done) | (go_simp; rfl)); intro gb544 hg w30 hbox hb; have n0_ := Aside0.mk (blk_below (g := gb535) blkz hb); have n1_ := Aside0.mk (below_step bel hb); have n2_ := Aside0.mk (hbox); have n3_ := Aside0.mk ((by rw [hg]; exact (below_size bel) : w.heap.size ≤ gb544)); have n4_ := n3_; have n5_ := Aside0.mk ((by rw [hg]; exact Nat.ne_of_lt (blk_lt (g := gb535) (o := .cells #[.int .i64 a0_0, .slice A0_1 l0_1.length c0_1, .slice A0_2 l0_2.length c0_2] 25 (0, 0)) blkz) : gb535 ≠ gb544)); have n6_ := Aside0.mk ((by rw [hg]; exact Nat.ne_of_gt (blk_lt (g := gb535) (o := .cells #[.int .i64 a0_0, .slice A0_1 l0_1.length c0_1, .slice A0_2 l0_2.length c0_2] 25 (0, 0)) blkz) : gb544 ≠ gb535)); clear BK535; clear HB; have BK535 := n0_; have HB := n1_; have BK544 := n2_; have GW544 := n3_; have GE544 := n4_; have NB535_544 := n5_; have NB544_535 := n6_; clear n0_ n1_ n2_ n3_ n4_ n5_ n6_; clear hb hbox hg; have hnb31 := NB544_535.out; have hnc31 := NB535_544.out; have hcz32_0 := blkc BK544.out 0 (.int .i64 0) rfl; have hcz32_1 := blkc BK544.out 1 (.slice none 0 0) rfl; have hcz32_2 := blkc BK544.out 2 (.slice none 0 0) rfl; have hfz32_0 := blk_frozen BK544.out 0; have hfz32_1 := blk_frozen BK544.out 1; have hfz32_2 := blk_frozen BK544.out 2))
  go_ret2
  exact ⟨by first | rfl | (simp [errW_none, errW_some] <;> rfl) | (simp [*, errW_none, errW_some] <;> rfl), by repeat (first | (with_reducible first | exact HB.out | apply below_alloc | apply pw_below_drewN | apply below_drew1 | refine below_set ?_ GE535.out | refine below_set ?_ GE544.out) | exact HB.out)⟩

end Go.Proofs.YtoilhnmdemnknaaDoor.XFeed

-- Written by wip/xprint.py of this repo, over the kit's print.py: out of the translation; the oracles in it are by hand. Not trusted: Lean checks it.
namespace Go.Proofs.YtoilhnmdemnknaaDoor.XFeed
open Go.RowKit Go.Proofs.YtoilhnmdemnknaaDoorW.PrintWords Go.Proofs.YtoilhnmdemnknaaDoorW.PrintLast Go.Proofs.YtoilhnmdemnknaaDoorW.PrintMore
attribute [local go_sem] max2_int min2_int max_two min_two max_three min_three max_four min_four   -- for this text's walks alone
set_option linter.unusedVariables false
set_option linter.unusedSimpArgs false

/-! ### dropperref05_asked: function 48 -/
def dropperref05_asked.f (k : Nat) (a0_0 : Int) (l0_1 : List (S69)) (l0_2 : List (S71)) (a1 : Int) : Option (Int) := (dropperref05_Valid.f k a0_0 l0_1 l0_2).bind fun t245 => (if t245 = true then ((dropperref05_IsState.f a0_0 l0_1 l0_2 a1).bind fun t246 => (if t246 = true then (some 0) else (some 51))) else (some 50))
theorem dropperref05_asked.mono : ∀ a0 a1 a2 a3 k, LeO (dropperref05_asked.f k a0 a1 a2 a3) (dropperref05_asked.f (k + 1) a0 a1 a2 a3) := by
 intro a0 a1 a2 a3 k
 unfold dropperref05_asked.f
 repeat' first
   | (with_reducible exact dropperref05_Valid.mono _ _ _ _)
   | (with_reducible exact LeO.refl _)
   | (with_reducible exact LeO.none _)
   | (with_reducible refine LeO.ite ?_ ?_)
   | (with_reducible refine LeO.bind ?_ (fun _ => ?_))
   | exact dropperref05_Valid.mono _ _ _ _
   | exact LeO.none _
   | refine LeO.ite ?_ ?_
   | refine LeO.bind ?_ (fun _ => ?_)
set_option maxHeartbeats 8000000 in
set_option maxRecDepth 100000 in
theorem dropperref05_asked.calls (k : Nat) (a0_0 : Int) (A0_1 : Option Addr) (c0_1 : Nat) (l0_1 : List (S69)) (A0_2 : Option Addr) (c0_2 : Nat) (l0_2 : List (S71)) (a1 : Int) (r : Int) (w : World) (hr0_1 : Kd.C k69 w A0_1 l0_1.length l0_1) (hc0_1 : l0_1.length ≤ c0_1) (hr0_2 : Kd.C k71 w A0_2 l0_2.length l0_2) (hc0_2 : l0_2.length ≤ c0_2) (h : dropperref05_asked.f k a0_0 l0_1 l0_2 a1 = some r) :
  Calls Tryd.prog 48 #[.agg #[.int .i64 a0_0, .slice A0_1 l0_1.length c0_1, .slice A0_2 l0_2.length c0_2], .int .i64 a1] w fun e w' => e = .returned (.int .i64 r) ∧ Below w.heap.size w w' := by
 have hu25 := Tryd.underlying25
 have HR0_1 := Aside0.mk hr0_1
 have HC0_1 := Aside0.mk hc0_1
 clear hr0_1 hc0_1
 have HR0_2 := Aside0.mk hr0_2
 have HC0_2 := Aside0.mk hc0_2
 clear hr0_2 hc0_2
 have HB := Aside0.mk (Below.refl w.heap.size w)
 have H : ((dropperref05_Valid.f k a0_0 l0_1 l0_2).bind fun t245 => (if t245 = true then ((dropperref05_IsState.f a0_0 l0_1 l0_2 a1).bind fun t246 => (if t246 = true then (some 0) else (some 51))) else (some 50))) = some r := h
 clear h
 replace H := Option.bind_eq_some_iff.mp H
 obtain ⟨t245, A30, H⟩ := H
 replace H : (if t245 = true then ((dropperref05_IsState.f a0_0 l0_1 l0_2 a1).bind fun t246 => (if t246 = true then (some 0) else (some 51))) else (some 50)) = some r := H
 have A3 := Aside0.mk A30
 clear A30
 by_cases c4 : t245 = true
 ·
  subst c4
  have H1 : ((dropperref05_IsState.f a0_0 l0_1 l0_2 a1).bind fun t246 => (if t246 = true then (some 0) else (some 51))) = some r := by rw [if_pos rfl] at H; exact H
  clear H
  have H := H1
  clear H1
  replace H := Option.bind_eq_some_iff.mp H
  obtain ⟨t246, A50, H⟩ := H
  replace H : (if t246 = true then (some 0) else (some 51)) = some r := H
  have A5 := Aside0.mk A50
  clear A50
  by_cases c6 : t246 = true
  ·
   subst c6
   have H1 : (some 0) = some r := by rw [if_pos rfl] at H; exact H
   clear H
   have H := H1
   clear H1
   obtain rfl := Option.some.inj H
   go_enter Tryd.func48, Tryd.ntmps48
   go_wp2_with (first | ((with_reducible refine gate_dst (N := 2) rfl ?_); refine box_event ?hg (N := 2) ?hd (cs := #[.int .i64 a0_0, .slice A0_1 l0_1.length c0_1, .slice A0_2 l0_2.length c0_2]) (t := 25) ?hr ?_; (case hd => rfl); (case hg => rfl); (case hr => first | (go_simp; done) | (go_simp; rfl)); intro gb244 hg w7 hbox hb; have n0_ := Aside0.mk (below_step bel hb); have n1_ := Aside0.mk (hbox); have n2_ := Aside0.mk ((by rw [hg]; exact (below_size bel) : w.heap.size ≤ gb244)); have n3_ := n2_; clear HB; have HB := n0_; have BK244 := n1_; have GW244 := n2_; have GE244 := n3_; clear n0_ n1_ n2_ n3_; clear hb hbox hg; have hcz8_0 := blkc BK244.out 0 (.int .i64 a0_0) rfl; have hcz8_1 := blkc BK244.out 1 (.slice A0_1 l0_1.length c0_1) rfl; have hcz8_2 := blkc BK244.out 2 (.slice A0_2 l0_2.length c0_2) rfl; have hfz8_0 := blk_frozen BK244.out 0; have hfz8_1 := blk_frozen BK244.out 1; have hfz8_2 := blk_frozen BK244.out 2) | ((with_reducible refine gate_callee (f := 20) rfl ?_); refine goesL_ (some 7) rfl rfl Tryd.func20 (by kernel_rfl) rfl #[.agg #[.int .i64 a0_0, .slice A0_1 l0_1.length c0_1, .slice A0_2 l0_2.length c0_2]] rfl mapz ?_; (with_reducible refine (dropperref05_Valid.calls k a0_0 _ _ l0_1 _ _ l0_2 true _ ?side1 ?side2 ?side3 ?side4 A3.out).mono ?_); (case side1 => exact cbz HR0_1); (case side2 => exact HC0_1.out); (case side3 => exact cbz HR0_2); (case side4 => exact HC0_2.out); rintro e w9 ⟨rfl, hb⟩; refine ⟨_, rfl, ?_⟩; have n0_ := Aside0.mk (blk_below (g := gb244) blkz hb); have n1_ := Aside0.mk (below_step bel hb); clear BK244; clear HB; have BK244 := n0_; have HB := n1_; clear n0_ n1_; (try clear hb); (try clear hb2); (try clear hk); (try clear hi); have hcz10_0 := blkc BK244.out 0 (.int .i64 a0_0) rfl; have hcz10_1 := blkc BK244.out 1 (.slice A0_1 l0_1.length c0_1) rfl; have hcz10_2 := blkc BK244.out 2 (.slice A0_2 l0_2.length c0_2) rfl; have hfz10_0 := blk_frozen BK244.out 0; have hfz10_1 := blk_frozen BK244.out 1; have hfz10_2 := blk_frozen BK244.out 2) | ((with_reducible refine gate_callee (f := 76) rfl ?_); refine goesL_ (some 12) rfl rfl Tryd.func76 (by kernel_rfl) rfl #[.agg #[.int .i64 a0_0, .slice A0_1 l0_1.length c0_1, .slice A0_2 l0_2.length c0_2], .int .i64 a1] rfl mapz ?_; (with_reducible refine (dropperref05_IsState.calls a0_0 _ _ l0_1 _ _ l0_2 a1 true _ ?side1 ?side2 ?side3 ?side4 A5.out).mono ?_); (case side1 => exact cbz HR0_1); (case side2 => exact HC0_1.out); (case side3 => exact cbz HR0_2); (case side4 => exact HC0_2.out); rintro e w11 ⟨rfl, hb⟩; refine ⟨_, rfl, ?_⟩; have n0_ := Aside0.mk (blk_below (g := gb244) blkz hb); have n1_ := Aside0.mk (below_step bel hb); clear BK244; clear HB; have BK244 := n0_; have HB := n1_; clear n0_ n1_; (try clear hb); (try clear hb2); (try clear hk); (try clear hi)))
   go_ret
   exact ⟨by first | rfl | (simp [errW_none, errW_some] <;> rfl) | (simp [*, errW_none, errW_some] <;> rfl), by repeat (first | (with_reducible first | exact HB.out | apply below_alloc | apply pw_below_drewN | apply below_drew1 | refine below_set ?_ GE244.out) | exact HB.out)⟩
  ·
   replace c6 := Bool.eq_false_iff.mpr c6
   subst c6
   have H1 : (some 51) = some r := by rw [if_neg (show ¬ (false = true) by decide)] at H; exact H
   clear H
   have H := H1
   clear H1
   obtain rfl := Option.some.inj H
   go_enter Tryd.func48, Tryd.ntmps48
   go_wp2_with (first | ((with_reducible refine gate_dst (N := 2) rfl ?_); refine box_event ?hg (N := 2) ?hd (cs := #[.int .i64 a0_0, .slice A0_1 l0_1.length c0_1, .slice A0_2 l0_2.length c0_2]) (t := 25) ?hr ?_; (case hd => rfl); (case hg => rfl); (case hr => first | (go_simp; done) | (go_simp; rfl)); intro gb244 hg w12 hbox hb; have n0_ := Aside0.mk (below_step bel hb); have n1_ := Aside0.mk (hbox); have n2_ := Aside0.mk ((by rw [hg]; exact (below_size bel) : w.heap.size ≤ gb244)); have n3_ := n2_; clear HB; have HB := n0_; have BK244 := n1_; have GW244 := n2_; have GE244 := n3_; clear n0_ n1_ n2_ n3_; clear hb hbox hg; have hcz13_0 := blkc BK244.out 0 (.int .i64 a0_0) rfl; have hcz13_1 := blkc BK244.out 1 (.slice A0_1 l0_1.length c0_1) rfl; have hcz13_2 := blkc BK244.out 2 (.slice A0_2 l0_2.length c0_2) rfl; have hfz13_0 := blk_frozen BK244.out 0; have hfz13_1 := blk_frozen BK244.out 1; have hfz13_2 := blk_frozen BK244.out 2) | ((with_reducible refine gate_callee (f := 20) rfl ?_); refine goesL_ (some 7) rfl rfl Tryd.func20 (by kernel_rfl) rfl #[.agg #[.int .i64 a0_0, .slice A0_1 l0_1.length c0_1, .slice A0_2 l0_2.length c0_2]] rfl mapz ?_; (with_reducible refine (dropperref05_Valid.calls k a0_0 _ _ l0_1 _ _ l0_2 true _ ?side1 ?side2 ?side3 ?side4 A3.out).mono ?_); (case side1 => exact cbz HR0_1); (case side2 => exact HC0_1.out); (case side3 => exact cbz HR0_2); (case side4 => exact HC0_2.out); rintro e w14 ⟨rfl, hb⟩; refine ⟨_, rfl, ?_⟩; have n0_ := Aside0.mk (blk_below (g := gb244) blkz hb); have n1_ := Aside0.mk (below_step bel hb); clear BK244; clear HB; have BK244 := n0_; have HB := n1_; clear n0_ n1_; (try clear hb); (try clear hb2); (try clear hk); (try clear hi); have hcz15_0 := blkc BK244.out 0 (.int .i64 a0_0) rfl; have hcz15_1 := blkc BK244.out 1 (.slice A0_1 l0_1.length c0_1) rfl; have hcz15_2 := blkc BK244.out 2 (.slice A0_2 l0_2.length c0_2) rfl; have hfz15_0 := blk_frozen BK244.out 0; have hfz15_1 := blk_frozen BK244.out 1; have hfz15_2 := blk_frozen BK244.out 2) | ((with_reducible refine gate_callee (f := 76) rfl ?_); refine goesL_ (some 12) rfl rfl Tryd.func76 (by kernel_rfl) rfl #[.agg #[.int .i64 a0_0, .slice A0_1 l0_1.length c0_1, .slice A0_2 l0_2.length c0_2], .int .i64 a1] rfl mapz ?_; (with_reducible refine (dropperref05_IsState.calls a0_0 _ _ l0_1 _ _ l0_2 a1 false _ ?side1 ?side2 ?side3 ?side4 A5.out).mono ?_); (case side1 => exact cbz HR0_1); (case side2 => exact HC0_1.out); (case side3 => exact cbz HR0_2); (case side4 => exact HC0_2.out); rintro e w16 ⟨rfl, hb⟩; refine ⟨_, rfl, ?_⟩; have n0_ := Aside0.mk (blk_below (g := gb244) blkz hb); have n1_ := Aside0.mk (below_step bel hb); clear BK244; clear HB; have BK244 := n0_; have HB := n1_; clear n0_ n1_; (try clear hb); (try clear hb2); (try clear hk); (try clear hi)))
   go_ret
   exact ⟨by first | rfl | (simp [errW_none, errW_some] <;> rfl) | (simp [*, errW_none, errW_some] <;> rfl), by repeat (first | (with_reducible first | exact HB.out | apply below_alloc | apply pw_below_drewN | apply below_drew1 | refine below_set ?_ GE244.out) | exact HB.out)⟩
 ·
  replace c4 := Bool.eq_false_iff.mpr c4
  subst c4
  have H1 : (some 50) = some r := by rw [if_neg (show ¬ (false = true) by decide)] at H; exact H
  clear H
  have H := H1
  clear H1
  obtain rfl := Option.some.inj H
  go_enter Tryd.func48, Tryd.ntmps48
  go_wp2_with (first | ((with_reducible refine gate_dst (N := 2) rfl ?_); refine box_event ?hg (N := 2) ?hd (cs := #[.int .i64 a0_0, .slice A0_1 l0_1.length c0_1, .slice A0_2 l0_2.length c0_2]) (t := 25) ?hr ?_; (case hd => rfl); (case hg => rfl); (case hr => first | (go_simp; done) | (go_simp; rfl)); intro gb244 hg w17 hbox hb; have n0_ := Aside0.mk (below_step bel hb); have n1_ := Aside0.mk (hbox); have n2_ := Aside0.mk ((by rw [hg]; exact (below_size bel) : w.heap.size ≤ gb244)); have n3_ := n2_; clear HB; have HB := n0_; have BK244 := n1_; have GW244 := n2_; have GE244 := n3_; clear n0_ n1_ n2_ n3_; clear hb hbox hg; have hcz18_0 := blkc BK244.out 0 (.int .i64 a0_0) rfl; have hcz18_1 := blkc BK244.out 1 (.slice A0_1 l0_1.length c0_1) rfl; have hcz18_2 := blkc BK244.out 2 (.slice A0_2 l0_2.length c0_2) rfl; have hfz18_0 := blk_frozen BK244.out 0; have hfz18_1 := blk_frozen BK244.out 1; have hfz18_2 := blk_frozen BK244.out 2) | ((with_reducible refine gate_callee (f := 20) rfl ?_); refine goesL_ (some 7) rfl rfl Tryd.func20 (by kernel_rfl) rfl #[.agg #[.int .i64 a0_0, .slice A0_1 l0_1.length c0_1, .slice A0_2 l0_2.length c0_2]] rfl mapz ?_; (with_reducible refine (dropperref05_Valid.calls k a0_0 _ _ l0_1 _ _ l0_2 false _ ?side1 ?side2 ?side3 ?side4 A3.out).mono ?_); (case side1 => exact cbz HR0_1); (case side2 => exact HC0_1.out); (case side3 => exact cbz HR0_2); (case side4 => exact HC0_2.out); rintro e w19 ⟨rfl, hb⟩; refine ⟨_, rfl, ?_⟩; have n0_ := Aside0.mk (blk_below (g := gb244) blkz hb); have n1_ := Aside0.mk (below_step bel hb); clear BK244; clear HB; have BK244 := n0_; have HB := n1_; clear n0_ n1_; (try clear hb); (try clear hb2); (try clear hk); (try clear hi)))
  go_ret
  exact ⟨by first | rfl | (simp [errW_none, errW_some] <;> rfl) | (simp [*, errW_none, errW_some] <;> rfl), by repeat (first | (with_reducible first | exact HB.out | apply below_alloc | apply pw_below_drewN | apply below_drew1 | refine below_set ?_ GE244.out) | exact HB.out)⟩

end Go.Proofs.YtoilhnmdemnknaaDoor.XFeed

-- Written by wip/xprint.py of this repo, over the kit's print.py: out of the translation; the oracles in it are by hand. Not trusted: Lean checks it.
namespace Go.Proofs.YtoilhnmdemnknaaDoor.XFeed
open Go.RowKit Go.Proofs.YtoilhnmdemnknaaDoorW.PrintWords Go.Proofs.YtoilhnmdemnknaaDoorW.PrintLast Go.Proofs.YtoilhnmdemnknaaDoorW.PrintMore
attribute [local go_sem] max2_int min2_int max_two min_two max_three min_three max_four min_four   -- for this text's walks alone
set_option linter.unusedVariables false
set_option linter.unusedSimpArgs false

/-! ### dropperref05_After: function 35 -/
def dropperref05_After.l0 : Nat → Int → List Int → Int → Option (Int × Int)
 | 0, _, _, _ => none
 | k + 1, x1, x2, x9 => if x9 < (x2.length : Int) then (if 0 ≤ x9 then (if 0 ≤ (rd x2 x9) then (dropperref05_After.l0 k (Go.bits .xor .i64 x1 (shl .i64 1 (rd x2 x9))) x2 (wrap64 (x9 + 1))) else (none)) else (none)) else (some (x1, 0))
def dropperref05_After.f (k : Nat) (a0_0 : Int) (l0_1 : List (S69)) (l0_2 : List (S71)) (a1 : Int) (l2 : List Int) : Option (Int × Int) := (dropperref05_asked.f k a0_0 l0_1 l0_2 a1).bind fun t548 => (if t548 = 0 then ((dropperref05_isList.f k a0_0 l0_1 l0_2 l2).bind fun t549 => (if t549 = true then (dropperref05_After.l0 k a1 l2 0) else (some (0, 2)))) else (some (0, t548)))
theorem dropperref05_After.mono_l : ∀ k, (∀ y0 y1 y2, LeO (dropperref05_After.l0 k y0 y1 y2) (dropperref05_After.l0 (k + 1) y0 y1 y2))
 | 0 => fun _ _ _ r h => by simp [dropperref05_After.l0] at h
 | k + 1 => by
  have ih0 := dropperref05_After.mono_l k
  ·
   intro y0 y1 y2
   unfold dropperref05_After.l0
   repeat' first
   | (with_reducible exact ih0 _ _ _)
   | (with_reducible exact dropperref05_asked.mono _ _ _ _ _)
   | (with_reducible exact dropperref05_isList.mono _ _ _ _ _)
   | (with_reducible exact LeO.refl _)
   | (with_reducible exact LeO.none _)
   | (with_reducible refine LeO.ite ?_ ?_)
   | (with_reducible refine LeO.bind ?_ (fun _ => ?_))
   | exact ih0 _ _ _
   | exact dropperref05_asked.mono _ _ _ _ _
   | exact dropperref05_isList.mono _ _ _ _ _
   | exact LeO.none _
   | refine LeO.ite ?_ ?_
   | refine LeO.bind ?_ (fun _ => ?_)
theorem dropperref05_After.mono : ∀ a0 a1 a2 a3 a4 k, LeO (dropperref05_After.f k a0 a1 a2 a3 a4) (dropperref05_After.f (k + 1) a0 a1 a2 a3 a4) := by
 intro a0 a1 a2 a3 a4 k
 have ih0 := dropperref05_After.mono_l k
 unfold dropperref05_After.f
 repeat' first
   | (with_reducible exact ih0 _ _ _)
   | (with_reducible exact dropperref05_asked.mono _ _ _ _ _)
   | (with_reducible exact dropperref05_isList.mono _ _ _ _ _)
   | (with_reducible exact LeO.refl _)
   | (with_reducible exact LeO.none _)
   | (with_reducible refine LeO.ite ?_ ?_)
   | (with_reducible refine LeO.bind ?_ (fun _ => ?_))
   | exact ih0 _ _ _
   | exact dropperref05_asked.mono _ _ _ _ _
   | exact dropperref05_isList.mono _ _ _ _ _
   | exact LeO.none _
   | refine LeO.ite ?_ ?_
   | refine LeO.bind ?_ (fun _ => ?_)
set_option maxHeartbeats 8000000 in
set_option maxRecDepth 100000 in
theorem dropperref05_After.calls (k : Nat) (a0_0 : Int) (A0_1 : Option Addr) (c0_1 : Nat) (l0_1 : List (S69)) (A0_2 : Option Addr) (c0_2 : Nat) (l0_2 : List (S71)) (a1 : Int) (A2 : Option Addr) (c2 : Nat) (l2 : List Int) (r1 : Int) (r2 : Int) (w : World) (hr0_1 : Kd.C k69 w A0_1 l0_1.length l0_1) (hc0_1 : l0_1.length ≤ c0_1) (hr0_2 : Kd.C k71 w A0_2 l0_2.length l0_2) (hc0_2 : l0_2.length ≤ c0_2) (hr2 : Kd.C (Kd.int .i64) w A2 l2.length l2) (hc2 : l2.length ≤ c2) (h : dropperref05_After.f k a0_0 l0_1 l0_2 a1 l2 = some (r1, r2)) :
  Calls Tryd.prog 35 #[.agg #[.int .i64 a0_0, .slice A0_1 l0_1.length c0_1, .slice A0_2 l0_2.length c0_2], .int .i64 a1, .slice A2 l2.length c2] w fun e w' => e = .returned (.tuple #[.int .i64 r1, .int .i64 r2]) ∧ Below w.heap.size w w' := by
 have hu25 := Tryd.underlying25
 have HR0_1 := Aside0.mk hr0_1
 have HC0_1 := Aside0.mk hc0_1
 clear hr0_1 hc0_1
 have HR0_2 := Aside0.mk hr0_2
 have HC0_2 := Aside0.mk hc0_2
 clear hr0_2 hc0_2
 have HR2 := Aside0.mk hr2
 have HC2 := Aside0.mk hc2
 clear hr2 hc2
 have HB := Aside0.mk (Below.refl w.heap.size w)
 have H : ((dropperref05_asked.f k a0_0 l0_1 l0_2 a1).bind fun t548 => (if t548 = 0 then ((dropperref05_isList.f k a0_0 l0_1 l0_2 l2).bind fun t549 => (if t549 = true then (dropperref05_After.l0 k a1 l2 0) else (some (0, 2)))) else (some (0, t548)))) = some (r1, r2) := h
 clear h
 replace H := Option.bind_eq_some_iff.mp H
 obtain ⟨t548, A40, H⟩ := H
 replace H : (if t548 = 0 then ((dropperref05_isList.f k a0_0 l0_1 l0_2 l2).bind fun t549 => (if t549 = true then (dropperref05_After.l0 k a1 l2 0) else (some (0, 2)))) else (some (0, t548))) = some (r1, r2) := H
 have A4 := Aside0.mk A40
 clear A40
 by_cases c5 : t548 = 0
 ·
  rw [if_pos c5] at H
  have c5b0 : (t548 == 0) = true := beq_iff_eq.mpr c5
  have c5b1 : (t548 != 0) = false := bne_eq_false_iff_eq.mpr c5
  clear c5
  replace H := Option.bind_eq_some_iff.mp H
  obtain ⟨t549, A60, H⟩ := H
  replace H : (if t549 = true then (dropperref05_After.l0 k a1 l2 0) else (some (0, 2))) = some (r1, r2) := H
  have A6 := Aside0.mk A60
  clear A60
  by_cases c7 : t549 = true
  ·
   subst c7
   have H1 : (dropperref05_After.l0 k a1 l2 0) = some (r1, r2) := by rw [if_pos rfl] at H; exact H
   clear H
   have H := H1
   clear H1
   have H' := Aside0.mk H
   clear H
   go_enter Tryd.func35, Tryd.ntmps35
   go_wp2_with (first | ((with_reducible refine gate_dst (N := 3) rfl ?_); refine box_event ?hg (N := 3) ?hd (cs := #[.int .i64 a0_0, .slice A0_1 l0_1.length c0_1, .slice A0_2 l0_2.length c0_2]) (t := 25) ?hr ?_; (case hd => rfl); (case hg => rfl); (case hr => first | (go_simp; done) | (go_simp; rfl)); intro gb547 hg w8 hbox hb; have n0_ := Aside0.mk (below_step bel hb); have n1_ := Aside0.mk (hbox); have n2_ := Aside0.mk ((by rw [hg]; exact (below_size bel) : w.heap.size ≤ gb547)); have n3_ := n2_; clear HB; have HB := n0_; have BK547 := n1_; have GW547 := n2_; have GE547 := n3_; clear n0_ n1_ n2_ n3_; clear hb hbox hg; have hcz9_0 := blkc BK547.out 0 (.int .i64 a0_0) rfl; have hcz9_1 := blkc BK547.out 1 (.slice A0_1 l0_1.length c0_1) rfl; have hcz9_2 := blkc BK547.out 2 (.slice A0_2 l0_2.length c0_2) rfl; have hfz9_0 := blk_frozen BK547.out 0; have hfz9_1 := blk_frozen BK547.out 1; have hfz9_2 := blk_frozen BK547.out 2) | ((with_reducible refine gate_callee (f := 48) rfl ?_); refine goesL_ (some 12) rfl rfl Tryd.func48 (by kernel_rfl) rfl #[.agg #[.int .i64 a0_0, .slice A0_1 l0_1.length c0_1, .slice A0_2 l0_2.length c0_2], .int .i64 a1] rfl mapz ?_; (with_reducible refine (dropperref05_asked.calls k a0_0 _ _ l0_1 _ _ l0_2 a1 t548 _ ?side1 ?side2 ?side3 ?side4 A4.out).mono ?_); (case side1 => exact cbz HR0_1); (case side2 => exact HC0_1.out); (case side3 => exact cbz HR0_2); (case side4 => exact HC0_2.out); rintro e w10 ⟨rfl, hb⟩; refine ⟨_, rfl, ?_⟩; have n0_ := Aside0.mk (blk_below (g := gb547) blkz hb); have n1_ := Aside0.mk (below_step bel hb); clear BK547; clear HB; have BK547 := n0_; have HB := n1_; clear n0_ n1_; (try clear hb); (try clear hb2); (try clear hk); (try clear hi); have hcz11_0 := blkc BK547.out 0 (.int .i64 a0_0) rfl; have hcz11_1 := blkc BK547.out 1 (.slice A0_1 l0_1.length c0_1) rfl; have hcz11_2 := blkc BK547.out 2 (.slice A0_2 l0_2.length c0_2) rfl; have hfz11_0 := blk_frozen BK547.out 0; have hfz11_1 := blk_frozen BK547.out 1; have hfz11_2 := blk_frozen BK547.out 2) | ((with_reducible refine gate_callee (f := 73) rfl ?_); refine goesL_ (some 18) rfl rfl Tryd.func73 (by kernel_rfl) rfl #[.agg #[.int .i64 a0_0, .slice A0_1 l0_1.length c0_1, .slice A0_2 l0_2.length c0_2], .slice A2 l2.length c2] rfl mapz ?_; (with_reducible refine (dropperref05_isList.calls k a0_0 _ _ l0_1 _ _ l0_2 _ _ l2 true _ ?side1 ?side2 ?side3 ?side4 ?side5 ?side6 A6.out).mono ?_); (case side1 => exact cbz HR0_1); (case side2 => exact HC0_1.out); (case side3 => exact cbz HR0_2); (case side4 => exact HC0_2.out); (case side5 => exact cbz HR2); (case side6 => exact HC2.out); rintro e w12 ⟨rfl, hb⟩; refine ⟨_, rfl, ?_⟩; have n0_ := Aside0.mk (blk_below (g := gb547) blkz hb); have n1_ := Aside0.mk (below_step bel hb); clear BK547; clear HB; have BK547 := n0_; have HB := n1_; clear n0_ n1_; (try clear hb); (try clear hb2); (try clear hk); (try clear hi)))
   go_loopg [1, 9] k (fun kq v1 v9 w' => ∃ (x1_1 : Int) (x9_1 : Int), v1 = .int .i64 x1_1 ∧ v9 = .int .i64 x9_1 ∧ Aside0 (dropperref05_After.l0 kq x1_1 l2 x9_1 = some (r1, r2)) ∧ Aside0 (kq ≤ k) ∧ Aside0 (w'.heap[gb547]? = some (.cells #[.int .i64 a0_0, (.slice A0_1 l0_1.length c0_1), (.slice A0_2 l0_2.length c0_2)] 25 (0, 0))) ∧ Aside0 (Below w.heap.size w w'))
   case atStart => exact ⟨(a1), (0), rsz, rsz, H', ⟨Nat.le_refl _⟩, ⟨by (with_reducible repeat (first | refine blk_drewN ?_ _ | refine blk_drew ?_ | refine blk_alloc ?_ _)); exact BK547.out⟩, ⟨by repeat (first | (with_reducible first | exact HB.out | apply below_alloc | apply pw_below_drewN | apply below_drew1 | refine below_set ?_ GE547.out) | exact HB.out)⟩⟩
   case round =>
    clear H'
    try clear c2
    try clear p2
    try clear c3
    try clear c4
    try clear c5
    try clear c5b0
    try clear c5b1
    try clear c7
    try clear hcz11_0
    try clear hcz11_1
    try clear hcz11_2
    try clear hcz9_0
    try clear hcz9_1
    try clear hcz9_2
    try clear hfz11_0
    try clear hfz11_1
    try clear hfz11_2
    try clear hfz9_0
    try clear hfz9_1
    try clear hfz9_2
    obtain ⟨x1_1, x9_1, rfl, rfl, HA, HK1, BK547, HB⟩ := hrel
    cases gk with
    | zero => exact absurd HA.out (by simp [dropperref05_After.l0])
    | succ k1 =>
     have H := HA.out
     clear HA
     simp only [dropperref05_After.l0] at H
     by_cases c13 : x9_1 < (l2.length : Int)
     ·
      rw [if_pos c13] at H
      have c13b0 : decide (x9_1 < (l2.length : Int)) = true := decide_eq_true c13
      clear c13
      by_cases c14 : 0 ≤ x9_1
      ·
       rw [if_pos c14] at H
       have c14b0 : decide (0 ≤ x9_1) = true := decide_eq_true c14
       clear c14
       by_cases c15 : 0 ≤ (rd l2 x9_1)
       ·
        rw [if_pos c15] at H
        have c15b0 := eq_true c15
        have c15b1 : decide (0 ≤ (rd l2 x9_1)) = true := decide_eq_true c15
        clear c15
        obtain ⟨ji16, hji16⟩ : ∃ j_ : Int, (shl .i64 1 (rd l2 x9_1)) = j_ := ⟨_, rfl⟩
        replace H : (dropperref05_After.l0 k1 (Go.bits .xor .i64 x1_1 (ji16)) l2 (wrap64 (x9_1 + 1))) = some (r1, r2) := by first | (rw [hji16] at H; exact H) | (simp only [hji16] at H ⊢; exact H)
        have hji16_ : (IntKind.i64.wrap (1 * 2 ^ min (rd l2 x9_1).toNat 64)) = ji16 := hji16
        have hji16z : (rd l2 x9_1) ≤ 64 → (IntKind.i64.wrap (1 * 2 ^ (rd l2 x9_1).toNat)) = ji16 := shl_small hji16
        have hji16u : (IntKind.i64.wrap (2 ^ min (rd l2 x9_1).toNat 64)) = ji16 := by have h_ := hji16_; rw [Int.one_mul] at h_; exact h_
        have hji16v : (rd l2 x9_1) ≤ 64 → (IntKind.i64.wrap (2 ^ (rd l2 x9_1).toNat)) = ji16 := fun hle_ => by have h_ := hji16z hle_; rw [Int.one_mul] at h_; exact h_
        have hji16y : (wrap64 (1 * 2 ^ min (rd l2 x9_1).toNat 64)) = ji16 := (i64_w _).symm.trans hji16_
        have hji16x : (rd l2 x9_1) ≤ 64 → (wrap64 (1 * 2 ^ (rd l2 x9_1).toNat)) = ji16 := fun h_ => (i64_w _).symm.trans (hji16z h_)
        have H' := Aside0.mk H
        clear H
        have p550 : 0 ≤ (x9_1 : Int) := of_decide_eq_true asz
        have q550 : x9_1 < (l2.length : Int) := of_decide_eq_true asz
        obtain ⟨ad550, e550, hx550_0⟩ := Kd.at_int HR2.out x9_1 p550 q550
        cases e550
        replace hx550_0 := (HB.out.cell (World.block_lt_of_cell? w _ hx550_0)).trans hx550_0
        replace p550 := eq_true p550
        replace q550 := eq_true q550
        go_wp2
        go_roundg k1
        case measure => have := HK1.out; omega
        case rel => exact ⟨(Go.bits .xor .i64 x1_1 (ji16)), (wrap64 (x9_1 + 1)), (by first | rfl | (simp; done) | (simp only [← hji16] <;> (first | rfl | simp)) | (simp [*]; done)), rsz, H', ⟨by have := HK1.out; omega⟩, ⟨by (with_reducible repeat (first | refine blk_drewN ?_ _ | refine blk_drew ?_ | refine blk_alloc ?_ _)); exact BK547.out⟩, ⟨by repeat (first | (with_reducible first | exact HB.out | apply below_alloc | apply pw_below_drewN | apply below_drew1 | refine below_set ?_ GE547.out) | exact HB.out)⟩⟩
       ·
        rw [if_neg c15] at H
        exact absurd H (by simp)
      ·
       rw [if_neg c14] at H
       exact absurd H (by simp)
     ·
      rw [if_neg c13] at H
      have c13b0 : decide (x9_1 < (l2.length : Int)) = false := decide_eq_false c13
      clear c13
      simp only [Option.some.injEq, Prod.mk.injEq] at H
      obtain ⟨rfl, rfl⟩ := H
      go_wp2
      go_ret2
      exact ⟨by first | rfl | (simp [errW_none, errW_some] <;> rfl) | (simp [*, errW_none, errW_some] <;> rfl), by repeat (first | (with_reducible first | exact HB.out | apply below_alloc | apply pw_below_drewN | apply below_drew1 | refine below_set ?_ GE547.out) | exact HB.out)⟩
  ·
   replace c7 := Bool.eq_false_iff.mpr c7
   subst c7
   have H1 : (some (0, 2)) = some (r1, r2) := by rw [if_neg (show ¬ (false = true) by decide)] at H; exact H
   clear H
   have H := H1
   clear H1
   simp only [Option.some.injEq, Prod.mk.injEq] at H
   obtain ⟨rfl, rfl⟩ := H
   go_enter Tryd.func35, Tryd.ntmps35
   go_wp2_with (first | ((with_reducible refine gate_dst (N := 3) rfl ?_); refine box_event ?hg (N := 3) ?hd (cs := #[.int .i64 a0_0, .slice A0_1 l0_1.length c0_1, .slice A0_2 l0_2.length c0_2]) (t := 25) ?hr ?_; (case hd => rfl); (case hg => rfl); (case hr => first | (go_simp; done) | (go_simp; rfl)); intro gb547 hg w17 hbox hb; have n0_ := Aside0.mk (below_step bel hb); have n1_ := Aside0.mk (hbox); have n2_ := Aside0.mk ((by rw [hg]; exact (below_size bel) : w.heap.size ≤ gb547)); have n3_ := n2_; clear HB; have HB := n0_; have BK547 := n1_; have GW547 := n2_; have GE547 := n3_; clear n0_ n1_ n2_ n3_; clear hb hbox hg; have hcz18_0 := blkc BK547.out 0 (.int .i64 a0_0) rfl; have hcz18_1 := blkc BK547.out 1 (.slice A0_1 l0_1.length c0_1) rfl; have hcz18_2 := blkc BK547.out 2 (.slice A0_2 l0_2.length c0_2) rfl; have hfz18_0 := blk_frozen BK547.out 0; have hfz18_1 := blk_frozen BK547.out 1; have hfz18_2 := blk_frozen BK547.out 2) | ((with_reducible refine gate_callee (f := 48) rfl ?_); refine goesL_ (some 12) rfl rfl Tryd.func48 (by kernel_rfl) rfl #[.agg #[.int .i64 a0_0, .slice A0_1 l0_1.length c0_1, .slice A0_2 l0_2.length c0_2], .int .i64 a1] rfl mapz ?_; (with_reducible refine (dropperref05_asked.calls k a0_0 _ _ l0_1 _ _ l0_2 a1 t548 _ ?side1 ?side2 ?side3 ?side4 A4.out).mono ?_); (case side1 => exact cbz HR0_1); (case side2 => exact HC0_1.out); (case side3 => exact cbz HR0_2); (case side4 => exact HC0_2.out); rintro e w19 ⟨rfl, hb⟩; refine ⟨_, rfl, ?_⟩; have n0_ := Aside0.mk (blk_below (g := gb547) blkz hb); have n1_ := Aside0.mk (below_step bel hb); clear BK547; clear HB; have BK547 := n0_; have HB := n1_; clear n0_ n1_; (try clear hb); (try clear hb2); (try clear hk); (try clear hi); have hcz20_0 := blkc BK547.out 0 (.int .i64 a0_0) rfl; have hcz20_1 := blkc BK547.out 1 (.slice A0_1 l0_1.length c0_1) rfl; have hcz20_2 := blkc BK547.out 2 (.slice A0_2 l0_2.length c0_2) rfl; have hfz20_0 := blk_frozen BK547.out 0; have hfz20_1 := blk_frozen BK547.out 1; have hfz20_2 := blk_frozen BK547.out 2) | ((with_reducible refine gate_callee (f := 73) rfl ?_); refine goesL_ (some 18) rfl rfl Tryd.func73 (by kernel_rfl) rfl #[.agg #[.int .i64 a0_0, .slice A0_1 l0_1.length c0_1, .slice A0_2 l0_2.length c0_2], .slice A2 l2.length c2] rfl mapz ?_; (with_reducible refine (dropperref05_isList.calls k a0_0 _ _ l0_1 _ _ l0_2 _ _ l2 false _ ?side1 ?side2 ?side3 ?side4 ?side5 ?side6 A6.out).mono ?_); (case side1 => exact cbz HR0_1); (case side2 => exact HC0_1.out); (case side3 => exact cbz HR0_2); (case side4 => exact HC0_2.out); (case side5 => exact cbz HR2); (case side6 => exact HC2.out); rintro e w21 ⟨rfl, hb⟩; refine ⟨_, rfl, ?_⟩; have n0_ := Aside0.mk (blk_below (g := gb547) blkz hb); have n1_ := Aside0.mk (below_step bel hb); clear BK547; clear HB; have BK547 := n0_; have HB := n1_; clear n0_ n1_; (try clear hb); (try clear hb2); (try clear hk); (try clear hi)))
   go_ret2
   exact ⟨by first | rfl | (simp [errW_none, errW_some] <;> rfl) | (simp [*, errW_none, errW_some] <;> rfl), by repeat (first | (with_reducible first | exact HB.out | apply below_alloc | apply pw_below_drewN | apply below_drew1 | refine below_set ?_ GE547.out) | exact HB.out)⟩
 ·
  rw [if_neg c5] at H
  have c5b0 : (t548 == 0) = false := beq_eq_false_iff_ne.mpr c5
  have c5b1 : (t548 != 0) = true := bne_iff_ne.mpr c5
  simp only [Option.some.injEq, Prod.mk.injEq] at H
  obtain ⟨rfl, rfl⟩ := H
  go_enter Tryd.func35, Tryd.ntmps35
  go_wp2_with (first | ((with_reducible refine gate_dst (N := 3) rfl ?_); refine box_event ?hg (N := 3) ?hd (cs := #[.int .i64 a0_0, .slice A0_1 l0_1.length c0_1, .slice A0_2 l0_2.length c0_2]) (t := 25) ?hr ?_; (case hd => rfl); (case hg => rfl); (case hr => first | (go_simp; done) | (go_simp; rfl)); intro gb547 hg w22 hbox hb; have n0_ := Aside0.mk (below_step bel hb); have n1_ := Aside0.mk (hbox); have n2_ := Aside0.mk ((by rw [hg]; exact (below_size bel) : w.heap.size ≤ gb547)); have n3_ := n2_; clear HB; have HB := n0_; have BK547 := n1_; have GW547 := n2_; have GE547 := n3_; clear n0_ n1_ n2_ n3_; clear hb hbox hg; have hcz23_0 := blkc BK547.out 0 (.int .i64 a0_0) rfl; have hcz23_1 := blkc BK547.out 1 (.slice A0_1 l0_1.length c0_1) rfl; have hcz23_2 := blkc BK547.out 2 (.slice A0_2 l0_2.length c0_2) rfl; have hfz23_0 := blk_frozen BK547.out 0; have hfz23_1 := blk_frozen BK547.out 1; have hfz23_2 := blk_frozen BK547.out 2) | ((with_reducible refine gate_callee (f := 48) rfl ?_); refine goesL_ (some 12) rfl rfl Tryd.func48 (by kernel_rfl) rfl #[.agg #[.int .i64 a0_0, .slice A0_1 l0_1.length c0_1, .slice A0_2 l0_2.length c0_2], .int .i64 a1] rfl mapz ?_; (with_reducible refine (dropperref05_asked.calls k a0_0 _ _ l0_1 _ _ l0_2 a1 t548 _ ?side1 ?side2 ?side3 ?side4 A4.out).mono ?_); (case side1 => exact cbz HR0_1); (case side2 => exact HC0_1.out); (case side3 => exact cbz HR0_2); (case side4 => exact HC0_2.out); rintro e w24 ⟨rfl, hb⟩; refine ⟨_, rfl, ?_⟩; have n0_ := Aside0.mk (blk_below (g := gb547) blkz hb); have n1_ := Aside0.mk (below_step bel hb); clear BK547; clear HB; have BK547 := n0_; have HB := n1_; clear n0_ n1_; (try clear hb); (try clear hb2); (try clear hk); (try clear hi)))
  go_ret2
  exact ⟨by first | rfl | (simp [errW_none, errW_some] <;> rfl) | (simp [*, errW_none, errW_some] <;> rfl), by repeat (first | (with_reducible first | exact HB.out | apply below_alloc | apply pw_below_drewN | apply below_drew1 | refine below_set ?_ GE547.out) | exact HB.out)⟩

end Go.Proofs.YtoilhnmdemnknaaDoor.XFeed

-- Written by wip/xprint.py of this repo, over the kit's print.py: out of the translation; the oracles in it are by hand. Not trusted: Lean checks it.
namespace Go.Proofs.YtoilhnmdemnknaaDoor.XFeed
open Go.RowKit Go.Proofs.YtoilhnmdemnknaaDoorW.PrintWords Go.Proofs.YtoilhnmdemnknaaDoorW.PrintLast Go.Proofs.YtoilhnmdemnknaaDoorW.PrintMore
attribute [local go_sem] max2_int min2_int max_two min_two max_three min_three max_four min_four   -- for this text's walks alone
set_option linter.unusedVariables false
set_option linter.unusedSimpArgs false

/-! ### dropperlaw05_FeedIsOrder: function 7 -/
def dropperlaw05_FeedIsOrder.j0 : Nat → Int → Bool → Int → List (S69) → List (S71) → List Int → List Int → Option (Bool)
 | 0, _, _, _, _, _, _, _ => none
 | k + 1, x1, x24, x552000, x552001, x552002, x553000, x553001 => if x24 = true then ((dropperlaw05_First.f k).bind fun t554 => (some t554)) else ((feed_IsOrder.f k x552000 x552001 x552002 x1 x553000 x553001).bind fun bt555 => ((dropperref05_IsOrder.f k x552000 x552001 x552002 x1 x553000 x553001).bind fun bt557 => ((feed_After.f k x552000 x552001 x552002 x1 x553001).bind fun bt559 => ((dropperref05_After.f k x552000 x552001 x552002 x1 x553001).bind fun bt561 => (if (bt555.1 == bt557.1) = true then (if bt555.2 = bt557.2 then (if bt559.1 = bt561.1 then (if bt559.2 = bt561.2 then ((dropperlaw05_First.f k).bind fun t563 => (some t563)) else (none)) else (none)) else (none)) else (none))))))
def dropperlaw05_FeedIsOrder.f (k : Nat) (a0_0 : Int) (l0_1 : List (S69)) (l0_2 : List (S71)) (a1 : Int) (l2_0 : List Int) (l2_1 : List Int) : Option (Bool) := (dropperlaw05_Large.f a0_0 l0_1 l0_2 l2_0).bind fun t553 => (if t553 = true then (dropperlaw05_FeedIsOrder.j0 k a1 true a0_0 l0_1 l0_2 l2_0 l2_1) else (dropperlaw05_FeedIsOrder.j0 k a1 (decide ((l2_1.length : Int) > 1100)) a0_0 l0_1 l0_2 l2_0 l2_1))
theorem dropperlaw05_FeedIsOrder.mono_l : ∀ k, (∀ y0 y1 y2 y3 y4 y5 y6, LeO (dropperlaw05_FeedIsOrder.j0 k y0 y1 y2 y3 y4 y5 y6) (dropperlaw05_FeedIsOrder.j0 (k + 1) y0 y1 y2 y3 y4 y5 y6))
 | 0 => fun _ _ _ _ _ _ _ r h => by simp [dropperlaw05_FeedIsOrder.j0] at h
 | k + 1 => by
  have ih0 := dropperlaw05_FeedIsOrder.mono_l k
  ·
   intro y0 y1 y2 y3 y4 y5 y6
   unfold dropperlaw05_FeedIsOrder.j0
   repeat' first
   | (with_reducible exact ih0 _ _ _ _ _ _ _)
   | (with_reducible exact dropperlaw05_First.mono _)
   | (with_reducible exact dropperref05_After.mono _ _ _ _ _ _)
   | (with_reducible exact dropperref05_IsOrder.mono _ _ _ _ _ _ _)
   | (with_reducible exact feed_After.mono _ _ _ _ _ _)
   | (with_reducible exact feed_IsOrder.mono _ _ _ _ _ _ _)
   | (with_reducible exact LeO.refl _)
   | (with_reducible exact LeO.none _)
   | (with_reducible refine LeO.ite ?_ ?_)
   | (with_reducible refine LeO.bind ?_ (fun _ => ?_))
   | exact ih0 _ _ _ _ _ _ _
   | exact dropperlaw05_First.mono _
   | exact dropperref05_After.mono _ _ _ _ _ _
   | exact dropperref05_IsOrder.mono _ _ _ _ _ _ _
   | exact feed_After.mono _ _ _ _ _ _
   | exact feed_IsOrder.mono _ _ _ _ _ _ _
   | exact LeO.none _
   | refine LeO.ite ?_ ?_
   | refine LeO.bind ?_ (fun _ => ?_)
theorem dropperlaw05_FeedIsOrder.mono : ∀ a0 a1 a2 a3 a4 a5 k, LeO (dropperlaw05_FeedIsOrder.f k a0 a1 a2 a3 a4 a5) (dropperlaw05_FeedIsOrder.f (k + 1) a0 a1 a2 a3 a4 a5) := by
 intro a0 a1 a2 a3 a4 a5 k
 have ih0 := dropperlaw05_FeedIsOrder.mono_l k
 unfold dropperlaw05_FeedIsOrder.f
 repeat' first
   | (with_reducible exact ih0 _ _ _ _ _ _ _)
   | (with_reducible exact dropperlaw05_First.mono _)
   | (with_reducible exact dropperref05_After.mono _ _ _ _ _ _)
   | (with_reducible exact dropperref05_IsOrder.mono _ _ _ _ _ _ _)
   | (with_reducible exact feed_After.mono _ _ _ _ _ _)
   | (with_reducible exact feed_IsOrder.mono _ _ _ _ _ _ _)
   | (with_reducible exact LeO.refl _)
   | (with_reducible exact LeO.none _)
   | (with_reducible refine LeO.ite ?_ ?_)
   | (with_reducible refine LeO.bind ?_ (fun _ => ?_))
   | exact ih0 _ _ _ _ _ _ _
   | exact dropperlaw05_First.mono _
   | exact dropperref05_After.mono _ _ _ _ _ _
   | exact dropperref05_IsOrder.mono _ _ _ _ _ _ _
   | exact feed_After.mono _ _ _ _ _ _
   | exact feed_IsOrder.mono _ _ _ _ _ _ _
   | exact LeO.none _
   | refine LeO.ite ?_ ?_
   | refine LeO.bind ?_ (fun _ => ?_)
set_option maxHeartbeats 8000000 in
set_option maxRecDepth 100000 in
theorem dropperlaw05_FeedIsOrder.calls (k : Nat) (a0_0 : Int) (A0_1 : Option Addr) (c0_1 : Nat) (l0_1 : List (S69)) (A0_2 : Option Addr) (c0_2 : Nat) (l0_2 : List (S71)) (a1 : Int) (A2_0 : Option Addr) (c2_0 : Nat) (l2_0 : List Int) (A2_1 : Option Addr) (c2_1 : Nat) (l2_1 : List Int) (r : Bool) (w : World) (hr0_1 : Kd.C k69 w A0_1 l0_1.length l0_1) (hc0_1 : l0_1.length ≤ c0_1) (hr0_2 : Kd.C k71 w A0_2 l0_2.length l0_2) (hc0_2 : l0_2.length ≤ c0_2) (hr2_0 : Kd.C (Kd.int .i64) w A2_0 l2_0.length l2_0) (hc2_0 : l2_0.length ≤ c2_0) (hr2_1 : Kd.C (Kd.int .i64) w A2_1 l2_1.length l2_1) (hc2_1 : l2_1.length ≤ c2_1) (hT : Tab.Tabs w) (h : dropperlaw05_FeedIsOrder.f k a0_0 l0_1 l0_2 a1 l2_0 l2_1 = some r) :
  Calls Tryd.prog 7 #[.agg #[.int .i64 a0_0, .slice A0_1 l0_1.length c0_1, .slice A0_2 l0_2.length c0_2], .int .i64 a1, .agg #[.slice A2_0 l2_0.length c2_0, .slice A2_1 l2_1.length c2_1]] w fun e w' => e = .returned (.bool r) ∧ Below w.heap.size w w' := by
 have HT := Aside0.mk hT
 clear hT
 have hu25 := Tryd.underlying25
 have hu54 := Tryd.underlying54
 have HR0_1 := Aside0.mk hr0_1
 have HC0_1 := Aside0.mk hc0_1
 clear hr0_1 hc0_1
 have HR0_2 := Aside0.mk hr0_2
 have HC0_2 := Aside0.mk hc0_2
 clear hr0_2 hc0_2
 have HR2_0 := Aside0.mk hr2_0
 have HC2_0 := Aside0.mk hc2_0
 clear hr2_0 hc2_0
 have HR2_1 := Aside0.mk hr2_1
 have HC2_1 := Aside0.mk hc2_1
 clear hr2_1 hc2_1
 have HB := Aside0.mk (Below.refl w.heap.size w)
 have H : ((dropperlaw05_Large.f a0_0 l0_1 l0_2 l2_0).bind fun t553 => (if t553 = true then (dropperlaw05_FeedIsOrder.j0 k a1 true a0_0 l0_1 l0_2 l2_0 l2_1) else (dropperlaw05_FeedIsOrder.j0 k a1 (decide ((l2_1.length : Int) > 1100)) a0_0 l0_1 l0_2 l2_0 l2_1))) = some r := h
 clear h
 have HC4 := Aside0.mk H
 clear H
 go_enter Tryd.func7, Tryd.ntmps7
 go_upto_region 1 with (first | ((with_reducible refine gate_dst (N := 3) rfl ?_); (try (refine gate_guard (by rfl) ?_; dsimp only)); refine box_event ?hg (N := 3) ?hd (cs := #[.int .i64 a0_0, .slice A0_1 l0_1.length c0_1, .slice A0_2 l0_2.length c0_2]) (t := 25) ?hr ?_; (case hd => rfl); (case hg => rfl); (case hr => first | (go_simp; done) | (go_simp; rfl)); intro gb551 hg w5 hbox hb; have n0_ := Aside0.mk (below_step bel hb); have n1_ := Aside0.mk (hbox); have n2_ := Aside0.mk ((by rw [hg]; exact (below_size bel) : w.heap.size ≤ gb551)); have n3_ := n2_; clear HB; have HB := n0_; have BK551 := n1_; have GW551 := n2_; have GE551 := n3_; clear n0_ n1_ n2_ n3_; clear hb hbox hg) | ((with_reducible refine gate_dst (N := 5) rfl ?_); (try (refine gate_guard (by rfl) ?_; dsimp only)); refine box_event ?hg (N := 5) ?hd (cs := #[.slice A2_0 l2_0.length c2_0, .slice A2_1 l2_1.length c2_1]) (t := 54) ?hr ?_; (case hd => rfl); (case hg => rfl); (case hr => first | (go_simp; done) | (go_simp; rfl)); intro gb552 hg w6 hbox hb; have n0_ := Aside0.mk (blk_below (g := gb551) blkz hb); have n1_ := Aside0.mk (below_step bel hb); have n2_ := Aside0.mk (hbox); have n3_ := Aside0.mk ((by rw [hg]; exact (below_size bel) : w.heap.size ≤ gb552)); have n4_ := n3_; have n5_ := Aside0.mk ((by rw [hg]; exact Nat.ne_of_lt (blk_lt (g := gb551) (o := .cells #[.int .i64 a0_0, .slice A0_1 l0_1.length c0_1, .slice A0_2 l0_2.length c0_2] 25 (0, 0)) blkz) : gb551 ≠ gb552)); have n6_ := Aside0.mk ((by rw [hg]; exact Nat.ne_of_gt (blk_lt (g := gb551) (o := .cells #[.int .i64 a0_0, .slice A0_1 l0_1.length c0_1, .slice A0_2 l0_2.length c0_2] 25 (0, 0)) blkz) : gb552 ≠ gb551)); clear BK551; clear HB; have BK551 := n0_; have HB := n1_; have BK552 := n2_; have GW552 := n3_; have GE552 := n4_; have NB551_552 := n5_; have NB552_551 := n6_; clear n0_ n1_ n2_ n3_ n4_ n5_ n6_; clear hb hbox hg))
 (try simp only [Act.put, List.setIfInBounds_toArray, List.set_cons_zero, List.set_cons_succ])
 go_cut [24] (fun v24 wc => ∃ (kq : Nat) (x24_3 : Bool), v24 = .bool x24_3 ∧ Aside0 (dropperlaw05_FeedIsOrder.j0 kq a1 x24_3 a0_0 l0_1 l0_2 l2_0 l2_1 = some r) ∧ Aside0 (kq ≤ k) ∧ Aside0 (wc.heap[gb551]? = some (.cells #[.int .i64 a0_0, (.slice A0_1 l0_1.length c0_1), (.slice A0_2 l0_2.length c0_2)] 25 (0, 0))) ∧ Aside0 (wc.heap[gb552]? = some (.cells #[(.slice A2_0 l2_0.length c2_0), (.slice A2_1 l2_1.length c2_1)] 54 (0, 0))) ∧ Aside0 (Below w.heap.size w wc))
 case first =>
  have H := HC4.out
  clear HC4
  replace H := Option.bind_eq_some_iff.mp H
  obtain ⟨t553, A70, H⟩ := H
  replace H : (if t553 = true then (dropperlaw05_FeedIsOrder.j0 k a1 true a0_0 l0_1 l0_2 l2_0 l2_1) else (dropperlaw05_FeedIsOrder.j0 k a1 (decide ((l2_1.length : Int) > 1100)) a0_0 l0_1 l0_2 l2_0 l2_1)) = some r := H
  have A7 := Aside0.mk A70
  clear A70
  by_cases c8 : t553 = true
  ·
   subst c8
   have H1 : (dropperlaw05_FeedIsOrder.j0 k a1 true a0_0 l0_1 l0_2 l2_0 l2_1) = some r := by rw [if_pos rfl] at H; exact H
   clear H
   have H := H1
   clear H1
   have H' := Aside0.mk H
   clear H
   have hnb9 := NB551_552.out
   have hnc9 := NB552_551.out
   have hcz10_0 := blkc BK551.out 0 (.int .i64 a0_0) rfl
   have hcz10_1 := blkc BK551.out 1 (.slice A0_1 l0_1.length c0_1) rfl
   have hcz10_2 := blkc BK551.out 2 (.slice A0_2 l0_2.length c0_2) rfl
   have hfz10_0 := blk_frozen BK551.out 0
   have hfz10_1 := blk_frozen BK551.out 1
   have hfz10_2 := blk_frozen BK551.out 2
   have hcz11_0 := blkc BK552.out 0 (.slice A2_0 l2_0.length c2_0) rfl
   have hcz11_1 := blkc BK552.out 1 (.slice A2_1 l2_1.length c2_1) rfl
   have hfz11_0 := blk_frozen BK552.out 0
   have hfz11_1 := blk_frozen BK552.out 1
   go_wp2_with (first | ((with_reducible refine gate_callee (f := 11) rfl ?_); refine goesL_ (some 18) rfl rfl Tryd.func11 (by kernel_rfl) rfl #[.agg #[.int .i64 a0_0, .slice A0_1 l0_1.length c0_1, .slice A0_2 l0_2.length c0_2], .slice A2_0 l2_0.length c2_0] rfl mapz ?_; (with_reducible refine (dropperlaw05_Large.calls a0_0 _ _ l0_1 _ _ l0_2 _ _ l2_0 true _ ?side1 ?side2 ?side3 ?side4 ?side5 ?side6 A7.out).mono ?_); (case side1 => exact cbz HR0_1); (case side2 => exact HC0_1.out); (case side3 => exact cbz HR0_2); (case side4 => exact HC0_2.out); (case side5 => exact cbz HR2_0); (case side6 => exact HC2_0.out); rintro e w12 ⟨rfl, hb⟩; refine ⟨_, rfl, ?_⟩; have n0_ := Aside0.mk (blk_below (g := gb551) blkz hb); have n1_ := Aside0.mk (blk_below (g := gb552) blkz hb); have n2_ := Aside0.mk (below_step bel hb); clear BK551; clear BK552; clear HB; have BK551 := n0_; have BK552 := n1_; have HB := n2_; clear n0_ n1_ n2_; (try clear hb); (try clear hb2); (try clear hk); (try clear hi)))
   go_meet
   case rel => exact ⟨_, (true), rsz, H', ⟨by first | omega | exact Nat.le_refl _⟩, ⟨by (with_reducible repeat (first | refine blk_drewN ?_ _ | refine blk_drew ?_ | refine blk_alloc ?_ _)); exact BK551.out⟩, ⟨by (with_reducible repeat (first | refine blk_drewN ?_ _ | refine blk_drew ?_ | refine blk_alloc ?_ _)); exact BK552.out⟩, ⟨by repeat (first | (with_reducible first | exact HB.out | apply below_alloc | apply pw_below_drewN | apply below_drew1 | refine below_set ?_ GE551.out | refine below_set ?_ GE552.out) | exact HB.out)⟩⟩
  ·
   replace c8 := Bool.eq_false_iff.mpr c8
   subst c8
   have H1 : (dropperlaw05_FeedIsOrder.j0 k a1 (decide ((l2_1.length : Int) > 1100)) a0_0 l0_1 l0_2 l2_0 l2_1) = some r := by rw [if_neg (show ¬ (false = true) by decide)] at H; exact H
   clear H
   have H := H1
   clear H1
   have H' := Aside0.mk H
   clear H
   have hnb13 := NB551_552.out
   have hnc13 := NB552_551.out
   have hcz14_0 := blkc BK551.out 0 (.int .i64 a0_0) rfl
   have hcz14_1 := blkc BK551.out 1 (.slice A0_1 l0_1.length c0_1) rfl
   have hcz14_2 := blkc BK551.out 2 (.slice A0_2 l0_2.length c0_2) rfl
   have hfz14_0 := blk_frozen BK551.out 0
   have hfz14_1 := blk_frozen BK551.out 1
   have hfz14_2 := blk_frozen BK551.out 2
   have hcz15_0 := blkc BK552.out 0 (.slice A2_0 l2_0.length c2_0) rfl
   have hcz15_1 := blkc BK552.out 1 (.slice A2_1 l2_1.length c2_1) rfl
   have hfz15_0 := blk_frozen BK552.out 0
   have hfz15_1 := blk_frozen BK552.out 1
   go_wp2_with (first | ((with_reducible refine gate_callee (f := 11) rfl ?_); refine goesL_ (some 18) rfl rfl Tryd.func11 (by kernel_rfl) rfl #[.agg #[.int .i64 a0_0, .slice A0_1 l0_1.length c0_1, .slice A0_2 l0_2.length c0_2], .slice A2_0 l2_0.length c2_0] rfl mapz ?_; (with_reducible refine (dropperlaw05_Large.calls a0_0 _ _ l0_1 _ _ l0_2 _ _ l2_0 false _ ?side1 ?side2 ?side3 ?side4 ?side5 ?side6 A7.out).mono ?_); (case side1 => exact cbz HR0_1); (case side2 => exact HC0_1.out); (case side3 => exact cbz HR0_2); (case side4 => exact HC0_2.out); (case side5 => exact cbz HR2_0); (case side6 => exact HC2_0.out); rintro e w16 ⟨rfl, hb⟩; refine ⟨_, rfl, ?_⟩; have n0_ := Aside0.mk (blk_below (g := gb551) blkz hb); have n1_ := Aside0.mk (blk_below (g := gb552) blkz hb); have n2_ := Aside0.mk (below_step bel hb); clear BK551; clear BK552; clear HB; have BK551 := n0_; have BK552 := n1_; have HB := n2_; clear n0_ n1_ n2_; (try clear hb); (try clear hb2); (try clear hk); (try clear hi); have hcz17_0 := blkc BK552.out 0 (.slice A2_0 l2_0.length c2_0) rfl; have hcz17_1 := blkc BK552.out 1 (.slice A2_1 l2_1.length c2_1) rfl; have hfz17_0 := blk_frozen BK552.out 0; have hfz17_1 := blk_frozen BK552.out 1))
   go_meet
   case rel => exact ⟨_, (decide ((l2_1.length : Int) > 1100)), rsz, H', ⟨by first | omega | exact Nat.le_refl _⟩, ⟨by (with_reducible repeat (first | refine blk_drewN ?_ _ | refine blk_drew ?_ | refine blk_alloc ?_ _)); exact BK551.out⟩, ⟨by (with_reducible repeat (first | refine blk_drewN ?_ _ | refine blk_drew ?_ | refine blk_alloc ?_ _)); exact BK552.out⟩, ⟨by repeat (first | (with_reducible first | exact HB.out | apply below_alloc | apply pw_below_drewN | apply below_drew1 | refine below_set ?_ GE551.out | refine below_set ?_ GE552.out) | exact HB.out)⟩⟩
 case rest =>
  clear HC4
  try clear c1
  try clear c2
  try clear p2
  try clear c7
  try clear c8
  try clear c9
  try clear c11
  try clear c13
  try clear hcz10_0
  try clear hcz10_1
  try clear hcz10_2
  try clear hcz11_0
  try clear hcz11_1
  try clear hcz14_0
  try clear hcz14_1
  try clear hcz14_2
  try clear hcz15_0
  try clear hcz15_1
  try clear hcz17_0
  try clear hcz17_1
  try clear hfz10_0
  try clear hfz10_1
  try clear hfz10_2
  try clear hfz11_0
  try clear hfz11_1
  try clear hfz14_0
  try clear hfz14_1
  try clear hfz14_2
  try clear hfz15_0
  try clear hfz15_1
  try clear hfz17_0
  try clear hfz17_1
  obtain ⟨kq, x24_3, rfl, HA, HJ3, BK551, BK552, HB⟩ := hcut
  cases kq with
  | zero => exact absurd HA.out (by simp [dropperlaw05_FeedIsOrder.j0])
  | succ kj3 =>
   have H := HA.out
   clear HA
   simp only [dropperlaw05_FeedIsOrder.j0] at H
   by_cases c18 : x24_3 = true
   ·
    subst c18
    have H1 : ((dropperlaw05_First.f kj3).bind fun t554 => (some t554)) = some r := by rw [if_pos rfl] at H; exact H
    clear H
    have H := H1
    clear H1
    replace H := Option.bind_eq_some_iff.mp H
    obtain ⟨t554, A190, H⟩ := H
    replace H : (some t554) = some r := H
    have A19 := Aside0.mk A190
    clear A190
    obtain rfl := Option.some.inj H
    go_wp2_with (first | ((with_reducible refine gate_callee (f := 12) rfl ?_); refine goesL_ (some 25) rfl rfl Tryd.func12 (by kernel_rfl) rfl #[] rfl mapz ?_; (with_reducible refine (dropperlaw05_First.calls kj3  t554 _ ?sideT A19.out).mono ?_); (case sideT => first | exact HT.out | exact Tab.Tabs.below HT.out bel | (with_reducible repeat (first | exact HT.out | apply Tab.Tabs.alloc | apply Tab.Tabs.drewN | apply Tab.Tabs.drew))); rintro e w20 ⟨rfl, hb⟩; refine ⟨_, rfl, ?_⟩; have n0_ := Aside0.mk (blk_below (g := gb551) blkz hb); have n1_ := Aside0.mk (blk_below (g := gb552) blkz hb); have n2_ := Aside0.mk (below_step bel hb); clear BK551; clear BK552; clear HB; have BK551 := n0_; have BK552 := n1_; have HB := n2_; clear n0_ n1_ n2_; (try clear hb); (try clear hb2); (try clear hk); (try clear hi)))
    go_ret
    exact ⟨by first | rfl | (simp [errW_none, errW_some] <;> rfl) | (simp [*, errW_none, errW_some] <;> rfl), by repeat (first | (with_reducible first | exact HB.out | apply below_alloc | apply pw_below_drewN | apply below_drew1 | refine below_set ?_ GE551.out | refine below_set ?_ GE552.out) | exact HB.out)⟩
   ·
    replace c18 := Bool.eq_false_iff.mpr c18
    subst c18
    have H1 : ((feed_IsOrder.f kj3 a0_0 l0_1 l0_2 a1 l2_0 l2_1).bind fun bt555 => ((dropperref05_IsOrder.f kj3 a0_0 l0_1 l0_2 a1 l2_0 l2_1).bind fun bt557 => ((feed_After.f kj3 a0_0 l0_1 l0_2 a1 l2_1).bind fun bt559 => ((dropperref05_After.f kj3 a0_0 l0_1 l0_2 a1 l2_1).bind fun bt561 => (if (bt555.1 == bt557.1) = true then (if bt555.2 = bt557.2 then (if bt559.1 = bt561.1 then (if bt559.2 = bt561.2 then ((dropperlaw05_First.f kj3).bind fun t563 => (some t563)) else (none)) else (none)) else (none)) else (none)))))) = some r := by rw [if_neg (show ¬ (false = true) by decide)] at H; exact H
    clear H
    have H := H1
    clear H1
    replace H := Option.bind_eq_some_iff.mp H
    obtain ⟨⟨t555, t556⟩, A210, H⟩ := H
    replace H : ((dropperref05_IsOrder.f kj3 a0_0 l0_1 l0_2 a1 l2_0 l2_1).bind fun bt557 => ((feed_After.f kj3 a0_0 l0_1 l0_2 a1 l2_1).bind fun bt559 => ((dropperref05_After.f kj3 a0_0 l0_1 l0_2 a1 l2_1).bind fun bt561 => (if (t555 == bt557.1) = true then (if t556 = bt557.2 then (if bt559.1 = bt561.1 then (if bt559.2 = bt561.2 then ((dropperlaw05_First.f kj3).bind fun t563 => (some t563)) else (none)) else (none)) else (none)) else (none))))) = some r := H
    have A21 := Aside0.mk A210
    clear A210
    replace H := Option.bind_eq_some_iff.mp H
    obtain ⟨⟨t557, t558⟩, A220, H⟩ := H
    replace H : ((feed_After.f kj3 a0_0 l0_1 l0_2 a1 l2_1).bind fun bt559 => ((dropperref05_After.f kj3 a0_0 l0_1 l0_2 a1 l2_1).bind fun bt561 => (if (t555 == t557) = true then (if t556 = t558 then (if bt559.1 = bt561.1 then (if bt559.2 = bt561.2 then ((dropperlaw05_First.f kj3).bind fun t563 => (some t563)) else (none)) else (none)) else (none)) else (none)))) = some r := H
    have A22 := Aside0.mk A220
    clear A220
    replace H := Option.bind_eq_some_iff.mp H
    obtain ⟨⟨t559, t560⟩, A230, H⟩ := H
    replace H : ((dropperref05_After.f kj3 a0_0 l0_1 l0_2 a1 l2_1).bind fun bt561 => (if (t555 == t557) = true then (if t556 = t558 then (if t559 = bt561.1 then (if t560 = bt561.2 then ((dropperlaw05_First.f kj3).bind fun t563 => (some t563)) else (none)) else (none)) else (none)) else (none))) = some r := H
    have A23 := Aside0.mk A230
    clear A230
    replace H := Option.bind_eq_some_iff.mp H
    obtain ⟨⟨t561, t562⟩, A240, H⟩ := H
    replace H : (if (t555 == t557) = true then (if t556 = t558 then (if t559 = t561 then (if t560 = t562 then ((dropperlaw05_First.f kj3).bind fun t563 => (some t563)) else (none)) else (none)) else (none)) else (none)) = some r := H
    have A24 := Aside0.mk A240
    clear A240
    by_cases c25 : (t555 == t557) = true
    ·
     rw [if_pos c25] at H
     have c25b0 : (t555 == t557) = true := c25
     (try (have c25b1 : decide (t555 = t557) = true := by simpa using c25))
     (try (have c25b2 : (t555 == t557) = true := by simpa using c25))
     clear c25
     by_cases c26 : t556 = t558
     ·
      rw [if_pos c26] at H
      have c26b0 : (t556 == t558) = true := beq_iff_eq.mpr c26
      have c26b1 : (t556 != t558) = false := bne_eq_false_iff_eq.mpr c26
      clear c26
      by_cases c27 : t559 = t561
      ·
       rw [if_pos c27] at H
       have c27b0 : (t559 == t561) = true := beq_iff_eq.mpr c27
       have c27b1 : (t559 != t561) = false := bne_eq_false_iff_eq.mpr c27
       clear c27
       by_cases c28 : t560 = t562
       ·
        rw [if_pos c28] at H
        have c28b0 : (t560 == t562) = true := beq_iff_eq.mpr c28
        have c28b1 : (t560 != t562) = false := bne_eq_false_iff_eq.mpr c28
        clear c28
        replace H := Option.bind_eq_some_iff.mp H
        obtain ⟨t563, A290, H⟩ := H
        replace H : (some t563) = some r := H
        have A29 := Aside0.mk A290
        clear A290
        obtain rfl := Option.some.inj H
        have hnb30 := NB551_552.out
        have hnc30 := NB552_551.out
        have hcz31_0 := blkc BK551.out 0 (.int .i64 a0_0) rfl
        have hcz31_1 := blkc BK551.out 1 (.slice A0_1 l0_1.length c0_1) rfl
        have hcz31_2 := blkc BK551.out 2 (.slice A0_2 l0_2.length c0_2) rfl
        have hfz31_0 := blk_frozen BK551.out 0
        have hfz31_1 := blk_frozen BK551.out 1
        have hfz31_2 := blk_frozen BK551.out 2
        have hcz32_0 := blkc BK552.out 0 (.slice A2_0 l2_0.length c2_0) rfl
        have hcz32_1 := blkc BK552.out 1 (.slice A2_1 l2_1.length c2_1) rfl
        have hfz32_0 := blk_frozen BK552.out 0
        have hfz32_1 := blk_frozen BK552.out 1
        go_wp2_with (first | ((with_reducible refine gate_callee (f := 32) rfl ?_); refine goesL_ (some 33) rfl rfl Tryd.func32 (by kernel_rfl) rfl #[.agg #[.int .i64 a0_0, .slice A0_1 l0_1.length c0_1, .slice A0_2 l0_2.length c0_2], .int .i64 a1, .slice A2_0 l2_0.length c2_0, .slice A2_1 l2_1.length c2_1] rfl mapz ?_; (with_reducible refine (feed_IsOrder.calls kj3 a0_0 _ _ l0_1 _ _ l0_2 a1 _ _ l2_0 _ _ l2_1 t555 t556 _ ?side1 ?side2 ?side3 ?side4 ?side5 ?side6 ?side7 ?side8 ?sideT A21.out).mono ?_); (case sideT => first | exact HT.out | exact Tab.Tabs.below HT.out bel | (with_reducible repeat (first | exact HT.out | apply Tab.Tabs.alloc | apply Tab.Tabs.drewN | apply Tab.Tabs.drew))); (case side1 => exact cbz HR0_1); (case side2 => exact HC0_1.out); (case side3 => exact cbz HR0_2); (case side4 => exact HC0_2.out); (case side5 => exact cbz HR2_0); (case side6 => exact HC2_0.out); (case side7 => exact cbz HR2_1); (case side8 => exact HC2_1.out); rintro e w33 ⟨rfl, hb⟩; refine ⟨_, rfl, ?_⟩; have n0_ := Aside0.mk (blk_below (g := gb551) blkz hb); have n1_ := Aside0.mk (blk_below (g := gb552) blkz hb); have n2_ := Aside0.mk (below_step bel hb); clear BK551; clear BK552; clear HB; have BK551 := n0_; have BK552 := n1_; have HB := n2_; clear n0_ n1_ n2_; (try clear hb); (try clear hb2); (try clear hk); (try clear hi); have hcz34_0 := blkc BK551.out 0 (.int .i64 a0_0) rfl; have hcz34_1 := blkc BK551.out 1 (.slice A0_1 l0_1.length c0_1) rfl; have hcz34_2 := blkc BK551.out 2 (.slice A0_2 l0_2.length c0_2) rfl; have hfz34_0 := blk_frozen BK551.out 0; have hfz34_1 := blk_frozen BK551.out 1; have hfz34_2 := blk_frozen BK551.out 2; have hcz35_0 := blkc BK552.out 0 (.slice A2_0 l2_0.length c2_0) rfl; have hcz35_1 := blkc BK552.out 1 (.slice A2_1 l2_1.length c2_1) rfl; have hfz35_0 := blk_frozen BK552.out 0; have hfz35_1 := blk_frozen BK552.out 1) | ((with_reducible refine gate_callee (f := 33) rfl ?_); refine goesL_ (some 43) rfl rfl Tryd.func33 (by kernel_rfl) rfl #[.agg #[.int .i64 a0_0, .slice A0_1 l0_1.length c0_1, .slice A0_2 l0_2.length c0_2], .int .i64 a1, .slice A2_0 l2_0.length c2_0, .slice A2_1 l2_1.length c2_1] rfl mapz ?_; (with_reducible refine (dropperref05_IsOrder.calls kj3 a0_0 _ _ l0_1 _ _ l0_2 a1 _ _ l2_0 _ _ l2_1 t557 t558 _ ?side1 ?side2 ?side3 ?side4 ?side5 ?side6 ?side7 ?side8 A22.out).mono ?_); (case side1 => exact cbz HR0_1); (case side2 => exact HC0_1.out); (case side3 => exact cbz HR0_2); (case side4 => exact HC0_2.out); (case side5 => exact cbz HR2_0); (case side6 => exact HC2_0.out); (case side7 => exact cbz HR2_1); (case side8 => exact HC2_1.out); rintro e w36 ⟨rfl, hb⟩; refine ⟨_, rfl, ?_⟩; have n0_ := Aside0.mk (blk_below (g := gb551) blkz hb); have n1_ := Aside0.mk (blk_below (g := gb552) blkz hb); have n2_ := Aside0.mk (below_step bel hb); clear BK551; clear BK552; clear HB; have BK551 := n0_; have BK552 := n1_; have HB := n2_; clear n0_ n1_ n2_; (try clear hb); (try clear hb2); (try clear hk); (try clear hi); have hcz37_0 := blkc BK551.out 0 (.int .i64 a0_0) rfl; have hcz37_1 := blkc BK551.out 1 (.slice A0_1 l0_1.length c0_1) rfl; have hcz37_2 := blkc BK551.out 2 (.slice A0_2 l0_2.length c0_2) rfl; have hfz37_0 := blk_frozen BK551.out 0; have hfz37_1 := blk_frozen BK551.out 1; have hfz37_2 := blk_frozen BK551.out 2; have hcz38_0 := blkc BK552.out 0 (.slice A2_0 l2_0.length c2_0) rfl; have hcz38_1 := blkc BK552.out 1 (.slice A2_1 l2_1.length c2_1) rfl; have hfz38_0 := blk_frozen BK552.out 0; have hfz38_1 := blk_frozen BK552.out 1) | ((with_reducible refine gate_callee (f := 34) rfl ?_); refine goesL_ (some 51) rfl rfl Tryd.func34 (by kernel_rfl) rfl #[.agg #[.int .i64 a0_0, .slice A0_1 l0_1.length c0_1, .slice A0_2 l0_2.length c0_2], .int .i64 a1, .slice A2_1 l2_1.length c2_1] rfl mapz ?_; (with_reducible refine (feed_After.calls kj3 a0_0 _ _ l0_1 _ _ l0_2 a1 _ _ l2_1 t559 t560 _ ?side1 ?side2 ?side3 ?side4 ?side5 ?side6 A23.out).mono ?_); (case side1 => exact cbz HR0_1); (case side2 => exact HC0_1.out); (case side3 => exact cbz HR0_2); (case side4 => exact HC0_2.out); (case side5 => exact cbz HR2_1); (case side6 => exact HC2_1.out); rintro e w39 ⟨rfl, hb⟩; refine ⟨_, rfl, ?_⟩; have n0_ := Aside0.mk (blk_below (g := gb551) blkz hb); have n1_ := Aside0.mk (blk_below (g := gb552) blkz hb); have n2_ := Aside0.mk (below_step bel hb); clear BK551; clear BK552; clear HB; have BK551 := n0_; have BK552 := n1_; have HB := n2_; clear n0_ n1_ n2_; (try clear hb); (try clear hb2); (try clear hk); (try clear hi); have hcz40_0 := blkc BK551.out 0 (.int .i64 a0_0) rfl; have hcz40_1 := blkc BK551.out 1 (.slice A0_1 l0_1.length c0_1) rfl; have hcz40_2 := blkc BK551.out 2 (.slice A0_2 l0_2.length c0_2) rfl; have hfz40_0 := blk_frozen BK551.out 0; have hfz40_1 := blk_frozen BK551.out 1; have hfz40_2 := blk_frozen BK551.out 2; have hcz41_0 := blkc BK552.out 0 (.slice A2_0 l2_0.length c2_0) rfl; have hcz41_1 := blkc BK552.out 1 (.slice A2_1 l2_1.length c2_1) rfl; have hfz41_0 := blk_frozen BK552.out 0; have hfz41_1 := blk_frozen BK552.out 1) | ((with_reducible refine gate_callee (f := 35) rfl ?_); refine goesL_ (some 59) rfl rfl Tryd.func35 (by kernel_rfl) rfl #[.agg #[.int .i64 a0_0, .slice A0_1 l0_1.length c0_1, .slice A0_2 l0_2.length c0_2], .int .i64 a1, .slice A2_1 l2_1.length c2_1] rfl mapz ?_; (with_reducible refine (dropperref05_After.calls kj3 a0_0 _ _ l0_1 _ _ l0_2 a1 _ _ l2_1 t561 t562 _ ?side1 ?side2 ?side3 ?side4 ?side5 ?side6 A24.out).mono ?_); (case side1 => exact cbz HR0_1); (case side2 => exact HC0_1.out); (case side3 => exact cbz HR0_2); (case side4 => exact HC0_2.out); (case side5 => exact cbz HR2_1); (case side6 => exact HC2_1.out); rintro e w42 ⟨rfl, hb⟩; refine ⟨_, rfl, ?_⟩; have n0_ := Aside0.mk (blk_below (g := gb551) blkz hb); have n1_ := Aside0.mk (blk_below (g := gb552) blkz hb); have n2_ := Aside0.mk (below_step bel hb); clear BK551; clear BK552; clear HB; have BK551 := n0_; have BK552 := n1_; have HB := n2_; clear n0_ n1_ n2_; (try clear hb); (try clear hb2); (try clear hk); (try clear hi)) | (go_at_call 12; (with_reducible refine (dropperlaw05_First.calls kj3  t563 _ ?sideT A29.out).mono ?_); (case sideT => first | exact HT.out | exact Tab.Tabs.below HT.out bel | (with_reducible repeat (first | exact HT.out | apply Tab.Tabs.alloc | apply Tab.Tabs.drewN | apply Tab.Tabs.drew))); rintro e w43 ⟨rfl, hb⟩; have n0_ := Aside0.mk (blk_below (g := gb551) blkz hb); have n1_ := Aside0.mk (blk_below (g := gb552) blkz hb); have n2_ := Aside0.mk (below_step bel hb); clear BK551; clear BK552; clear HB; have BK551 := n0_; have BK552 := n1_; have HB := n2_; clear n0_ n1_ n2_; (try clear hb); (try clear hb2); (try clear hk); (try clear hi)))
        go_ret
        exact ⟨by first | rfl | (simp [errW_none, errW_some] <;> rfl) | (simp [*, errW_none, errW_some] <;> rfl), by repeat (first | (with_reducible first | exact HB.out | apply below_alloc | apply pw_below_drewN | apply below_drew1 | refine below_set ?_ GE551.out | refine below_set ?_ GE552.out) | exact HB.out)⟩
       ·
        rw [if_neg c28] at H
        exact absurd H (by simp)
      ·
       rw [if_neg c27] at H
       exact absurd H (by simp)
     ·
      rw [if_neg c26] at H
      exact absurd H (by simp)
    ·
     rw [if_neg c25] at H
     exact absurd H (by simp)

end Go.Proofs.YtoilhnmdemnknaaDoor.XFeed

-- Written by wip/xprint.py of this repo, over the kit's print.py: out of the translation; the oracles in it are by hand. Not trusted: Lean checks it.
namespace Go.Proofs.YtoilhnmdemnknaaDoor.XFeed
open Go.RowKit Go.Proofs.YtoilhnmdemnknaaDoor.XFeed Go.Proofs.YtoilhnmdemnknaaDoorW.PrintWords Go.Proofs.YtoilhnmdemnknaaDoorW.PrintLast Go.Proofs.YtoilhnmdemnknaaDoorW.PrintMore
/-- THE ONE PURE STATEMENT of dropperlaw05_FeedIsOrder. -/
def dropperlaw05_FeedIsOrder.Pure : Prop := ∀ (a0_0 : Int) (l0_1 : List (S69)) (l0_2 : List (S71)) (a1 : Int) (l2_0 : List Int) (l2_1 : List Int), ((Lit.int .i64 a0_0).wf = true) → (l0_1.length ≤ 9223372036854775807 ∧ ∀ y0 ∈ l0_1, ((Lit.int .i64 y0.f0).wf = true) ∧ ((Lit.int .i64 y0.f1).wf = true)) → (l0_2.length ≤ 9223372036854775807 ∧ ∀ y0 ∈ l0_2, ((Lit.int .i64 y0.f0).wf = true) ∧ ((Lit.int .i64 y0.f1).wf = true)) → ((Lit.int .i64 a1).wf = true) → (l2_0.length ≤ 9223372036854775807 ∧ ∀ y0 ∈ l2_0, (Lit.int .i64 y0).wf = true) → (l2_1.length ≤ 9223372036854775807 ∧ ∀ y0 ∈ l2_1, (Lit.int .i64 y0).wf = true) → ∃ k, dropperlaw05_FeedIsOrder.f k a0_0 l0_1 l0_2 a1 l2_0 l2_1 = some true
end Go.Proofs.YtoilhnmdemnknaaDoor.XFeed

-- Written by wip/xprint.py of this repo, over the kit's print.py: out of the translation; the oracles in it are by hand. Not trusted: Lean checks it.
namespace Go.Proofs.YtoilhnmdemnknaaDoor.XFeed
open Go.RowKit Go.Proofs.YtoilhnmdemnknaaDoorW.PrintWords Go.Proofs.YtoilhnmdemnknaaDoorW.PrintLast Go.Proofs.YtoilhnmdemnknaaDoorW.PrintMore
attribute [local go_sem] max2_int min2_int max_two min_two max_three min_three max_four min_four   -- for this text's walks alone
set_option linter.unusedVariables false
set_option linter.unusedSimpArgs false

/-! ### dropperref05_Why: function 25 -/
def dropperref05_Why.f (k : Nat) (a0_0 : Int) (l0_1 : List (S69)) (l0_2 : List (S71)) (a1 : Int) (a2 : Int) : Option (Int) := (dropperref05_asked.f k a0_0 l0_1 l0_2 a1).bind fun t362 => (if t362 = 0 then ((dropperref05_section.f a0_0 l0_1 l0_2 a2).bind fun t363 => (if t363 = true then (some 0) else (some 2))) else (some t362))
end Go.Proofs.YtoilhnmdemnknaaDoor.XFeed

-- Written by wip/xprint.py of this repo, over the kit's print.py: out of the translation; the oracles in it are by hand. Not trusted: Lean checks it.
namespace Go.Proofs.YtoilhnmdemnknaaDoor.XFeed
open Go.RowKit Go.Proofs.YtoilhnmdemnknaaDoorW.PrintWords Go.Proofs.YtoilhnmdemnknaaDoorW.PrintLast Go.Proofs.YtoilhnmdemnknaaDoorW.PrintMore
attribute [local go_sem] max2_int min2_int max_two min_two max_three min_three max_four min_four   -- for this text's walks alone
set_option linter.unusedVariables false
set_option linter.unusedSimpArgs false

/-! ### dropperref05_At: function 26 -/
def dropperref05_At.l0 : Nat → Int → Int → Int → List (S69) → List (S71) → Option (Bool)
 | 0, _, _, _, _, _ => none
 | k + 1, x1, x5, x378000, x378001, x378002 => if x5 < (x378002.length : Int) then (if 0 ≤ x5 then (if ((rd_T71 x378002 x5).f0) = x1 then (some true) else (dropperref05_At.l0 k x1 (wrap64 (x5 + 1)) x378000 x378001 x378002)) else (none)) else (some false)
end Go.Proofs.YtoilhnmdemnknaaDoor.XFeed

-- Written by wip/xprint.py of this repo, over the kit's print.py: out of the translation; the oracles in it are by hand. Not trusted: Lean checks it.
namespace Go.Proofs.YtoilhnmdemnknaaDoor.XFeed
open Go.RowKit Go.Proofs.YtoilhnmdemnknaaDoorW.PrintWords Go.Proofs.YtoilhnmdemnknaaDoorW.PrintLast Go.Proofs.YtoilhnmdemnknaaDoorW.PrintMore
attribute [local go_sem] max2_int min2_int max_two min_two max_three min_three max_four min_four   -- for this text's walks alone
set_option linter.unusedVariables false
set_option linter.unusedSimpArgs false

/-! ### dropperref05_Fewest: function 27 -/
mutual
def dropperref05_Fewest.l0 : Nat → Int → Int → Int → Int → Int → List (S69) → List (S71) → Option (Int)
 | 0, _, _, _, _, _, _, _ => none
 | k + 1, x1, x2, x7, x8, x380000, x380001, x380002 => if x8 < (shl .i64 1 (x380001.length : Int)) then (if (Go.bits .and .i64 x8 x1) = x8 then ((dropperref05_live.f k x380000 x380001 x380002 (wrap64 (x1 - x8))).bind fun t380 => (if 0 ≤ x2 then (if x2 < (t380.length : Int) then (dropperref05_Fewest.j1 k x1 x2 x7 x8 ((rd t380 x2) != 0) x380000 x380001 x380002) else (none)) else (none))) else (dropperref05_Fewest.j1 k x1 x2 x7 x8 true x380000 x380001 x380002)) else (some x7)
def dropperref05_Fewest.j1 : Nat → Int → Int → Int → Int → Bool → Int → List (S69) → List (S71) → Option (Int)
 | 0, _, _, _, _, _, _, _, _ => none
 | k + 1, x1, x2, x7, x8, x37, x380000, x380001, x380002 => if x37 = true then (dropperref05_Fewest.l0 k x1 x2 x7 (wrap64 (x8 + 1)) x380000 x380001 x380002) else (dropperref05_Fewest.l1 k x1 x2 x7 x8 0 0 x380000 x380001 x380002)
def dropperref05_Fewest.l1 : Nat → Int → Int → Int → Int → Int → Int → Int → List (S69) → List (S71) → Option (Int)
 | 0, _, _, _, _, _, _, _, _, _ => none
 | k + 1, x1, x2, x7, x8, x9, x10, x380000, x380001, x380002 => if x10 < (x380001.length : Int) then ((dropperref05_closed.f x8 x10).bind fun t384 => (if t384 = true then (dropperref05_Fewest.l1 k x1 x2 x7 x8 (wrap64 (x9 + 1)) (wrap64 (x10 + 1)) x380000 x380001 x380002) else (dropperref05_Fewest.l1 k x1 x2 x7 x8 x9 (wrap64 (x10 + 1)) x380000 x380001 x380002))) else (dropperref05_Fewest.l0 k x1 x2 (mn x7 x9) (wrap64 (x8 + 1)) x380000 x380001 x380002)
end
def dropperref05_Fewest.f (k : Nat) (a0_0 : Int) (l0_1 : List (S69)) (l0_2 : List (S71)) (a1 : Int) (a2 : Int) : Option (Int) := dropperref05_Fewest.l0 k a1 a2 (l0_1.length : Int) 0 a0_0 l0_1 l0_2
end Go.Proofs.YtoilhnmdemnknaaDoor.XFeed

-- Written by wip/xprint.py of this repo, over the kit's print.py: out of the translation; the oracles in it are by hand. Not trusted: Lean checks it.
namespace Go.Proofs.YtoilhnmdemnknaaDoor.XFeed
open Go.RowKit Go.Proofs.YtoilhnmdemnknaaDoorW.PrintWords Go.Proofs.YtoilhnmdemnknaaDoorW.PrintLast Go.Proofs.YtoilhnmdemnknaaDoorW.PrintMore
attribute [local go_sem] max2_int min2_int max_two min_two max_three min_three max_four min_four   -- for this text's walks alone
set_option linter.unusedVariables false
set_option linter.unusedSimpArgs false

/-! ### dropperref05_Isolates: function 23 -/
mutual
def dropperref05_Isolates.l0 : Nat → Int → Int → List Int → Int → Int → List (S69) → List (S71) → Option (Bool × Int)
 | 0, _, _, _, _, _, _, _ => none
 | k + 1, x1, x2, x3, x11, x365000, x365001, x365002 => if x11 < (x3.length : Int) then (if 0 ≤ x11 then (if (rd x3 x11) < 0 then (some (false, 0)) else (if (rd x3 x11) ≥ (x365001.length : Int) then (some (false, 0)) else ((dropperref05_closed.f x1 (rd x3 x11)).bind fun t369 => (if t369 = true then (if x11 > 0 then (if 0 ≤ (wrap64 (x11 - 1)) then (if (wrap64 (x11 - 1)) < (x3.length : Int) then (if (rd x3 x11) ≤ (rd x3 (wrap64 (x11 - 1))) then (some (false, 0)) else (dropperref05_Isolates.l0 k x1 x2 x3 (wrap64 (x11 + 1)) x365000 x365001 x365002)) else (none)) else (none)) else (dropperref05_Isolates.l0 k x1 x2 x3 (wrap64 (x11 + 1)) x365000 x365001 x365002)) else (some (false, 0)))))) else (none)) else (dropperref05_Isolates.l1 k x1 x2 x3 0 x365000 x365001 x365002)
def dropperref05_Isolates.l1 : Nat → Int → Int → List Int → Int → Int → List (S69) → List (S71) → Option (Bool × Int)
 | 0, _, _, _, _, _, _, _ => none
 | k + 1, x1, x2, x3, x12, x365000, x365001, x365002 => if x12 < (x3.length : Int) then (if 0 ≤ x12 then (if 0 ≤ (rd x3 x12) then (dropperref05_Isolates.l1 k (wrap64 (x1 - (shl .i64 1 (rd x3 x12)))) x2 x3 (wrap64 (x12 + 1)) x365000 x365001 x365002) else (none)) else (none)) else ((dropperref05_live.f k x365000 x365001 x365002 x1).bind fun t373 => (if 0 ≤ x2 then (if x2 < (t373.length : Int) then (some (((rd t373 x2) == 0), 0)) else (none)) else (none)))
end
def dropperref05_Isolates.f (k : Nat) (a0_0 : Int) (l0_1 : List (S69)) (l0_2 : List (S71)) (a1 : Int) (a2 : Int) (l3 : List Int) : Option (Bool × Int) := (dropperref05_Why.f k a0_0 l0_1 l0_2 a1 a2).bind fun t365 => (if t365 = 0 then (dropperref05_Isolates.l0 k a1 a2 l3 0 a0_0 l0_1 l0_2) else (some (false, t365)))
end Go.Proofs.YtoilhnmdemnknaaDoor.XFeed

-- Written by wip/xprint.py of this repo, over the kit's print.py: out of the translation; the oracles in it are by hand. Not trusted: Lean checks it.
namespace Go.Proofs.YtoilhnmdemnknaaDoor.XFeed
open Go.RowKit Go.Proofs.YtoilhnmdemnknaaDoorW.PrintWords Go.Proofs.YtoilhnmdemnknaaDoorW.PrintLast Go.Proofs.YtoilhnmdemnknaaDoorW.PrintMore
attribute [local go_sem] max2_int min2_int max_two min_two max_three min_three max_four min_four   -- for this text's walks alone
set_option linter.unusedVariables false
set_option linter.unusedSimpArgs false

/-! ### feed_Isolates: function 22 -/
def feed_Isolates.l0 : Nat → Int → Int → List Int → Int → List Int → Int → Int → Int → List (S69) → List (S71) → Int → List (S69) → List (S71) → Option (Bool × Int)
 | 0, _, _, _, _, _, _, _, _, _, _, _, _, _ => none
 | k + 1, x1, x2, x3, x12, x26, x27, x28, x348000, x348001, x348002, x357000, x357001, x357002 => if x28 < x27 then (if 0 ≤ x28 then (if x28 < (x26.length : Int) then ((feed_within.f 0 (rd x26 x28) (wrap64 ((x348001.length : Int) - 1))).bind fun t358 => (if t358 = true then (if 0 ≤ (rd x26 x28) then (if (Go.bits .and .i64 (shr .i64 x1 (rd x26 x28)) 1) = 0 then (some (false, 0)) else (if x28 > 0 then (if 0 ≤ (wrap64 (x28 - 1)) then (if (wrap64 (x28 - 1)) < (x3.length : Int) then (if (rd x26 x28) ≤ (rd x3 (wrap64 (x28 - 1))) then (some (false, 0)) else (feed_Isolates.l0 k x1 x2 x3 (Go.bits .andNot .i64 x12 (shl .i64 1 (rd x26 x28))) x26 x27 (wrap64 (x28 + 1)) x348000 x348001 x348002 x357000 x357001 x357002)) else (none)) else (none)) else (feed_Isolates.l0 k x1 x2 x3 (Go.bits .andNot .i64 x12 (shl .i64 1 (rd x26 x28))) x26 x27 (wrap64 (x28 + 1)) x348000 x348001 x348002 x357000 x357001 x357002))) else (none)) else (some (false, 0)))) else (none)) else (none)) else ((feed_grid_dead.f k x357000 x357001 x357002 x12 x2).bind fun t360 => (some (t360, 0)))
def feed_Isolates.f (k : Nat) (a0_0 : Int) (l0_1 : List (S69)) (l0_2 : List (S71)) (a1 : Int) (a2 : Int) (l3 : List Int) : Option (Bool × Int) := (feed_asked.f a0_0 l0_1 l0_2 a1 a2).bind fun bt348 => (if bt348.2 = 0 then (feed_Isolates.l0 k a1 a2 l3 a1 l3 (l3.length : Int) 0 a0_0 l0_1 l0_2 bt348.1 l0_1 l0_2) else (some (false, bt348.2)))
end Go.Proofs.YtoilhnmdemnknaaDoor.XFeed

-- Written by wip/xprint.py of this repo, over the kit's print.py: out of the translation; the oracles in it are by hand. Not trusted: Lean checks it.
namespace Go.Proofs.YtoilhnmdemnknaaDoor.XFeed
open Go.RowKit Go.Proofs.YtoilhnmdemnknaaDoorW.PrintWords Go.Proofs.YtoilhnmdemnknaaDoorW.PrintLast Go.Proofs.YtoilhnmdemnknaaDoorW.PrintMore
attribute [local go_sem] max2_int min2_int max_two min_two max_three min_three max_four min_four   -- for this text's walks alone
set_option linter.unusedVariables false
set_option linter.unusedSimpArgs false

/-! ### dropperref05_States: function 18 -/
def dropperref05_States.l0 : Nat → Int → Int → Int → List (S69) → List (S71) → Option (Int × Int)
 | 0, _, _, _, _, _ => none
 | k + 1, x4, x5, x298000, x298001, x298002 => if x5 < (shl .i64 1 (x298001.length : Int)) then ((dropperref05_right.f k x298000 x298001 x298002 x5).bind fun t299 => (if t299 = true then (dropperref05_States.l0 k (wrap64 (x4 + 1)) (wrap64 (x5 + 1)) x298000 x298001 x298002) else (dropperref05_States.l0 k x4 (wrap64 (x5 + 1)) x298000 x298001 x298002))) else (some (x4, 0))
def dropperref05_States.f (k : Nat) (a0_0 : Int) (l0_1 : List (S69)) (l0_2 : List (S71)) : Option (Int × Int) := (dropperref05_Valid.f k a0_0 l0_1 l0_2).bind fun t298 => (if t298 = true then (dropperref05_States.l0 k 0 0 a0_0 l0_1 l0_2) else (some (0, 50)))
end Go.Proofs.YtoilhnmdemnknaaDoor.XFeed

-- Written by wip/xprint.py of this repo, over the kit's print.py: out of the translation; the oracles in it are by hand. Not trusted: Lean checks it.
namespace Go.Proofs.YtoilhnmdemnknaaDoor.XFeed
open Go.RowKit Go.Proofs.YtoilhnmdemnknaaDoorW.PrintWords Go.Proofs.YtoilhnmdemnknaaDoorW.PrintLast Go.Proofs.YtoilhnmdemnknaaDoorW.PrintMore
attribute [local go_sem] max2_int min2_int max_two min_two max_three min_three max_four min_four   -- for this text's walks alone
set_option linter.unusedVariables false
set_option linter.unusedSimpArgs false

/-! ### dropperref05_Live: function 14 -/
end Go.Proofs.YtoilhnmdemnknaaDoor.XFeed

-- Written by wip/xprint.py of this repo, over the kit's print.py: out of the translation; the oracles in it are by hand. Not trusted: Lean checks it.
namespace Go.Proofs.YtoilhnmdemnknaaDoor.XFeed
open Go.RowKit Go.Proofs.YtoilhnmdemnknaaDoorW.PrintWords Go.Proofs.YtoilhnmdemnknaaDoorW.PrintLast Go.Proofs.YtoilhnmdemnknaaDoorW.PrintMore
attribute [local go_sem] max2_int min2_int max_two min_two max_three min_three max_four min_four   -- for this text's walks alone
set_option linter.unusedVariables false
set_option linter.unusedSimpArgs false

/-! ### dropperref05_Right: function 16 -/
end Go.Proofs.YtoilhnmdemnknaaDoor.XFeed

-- Written by wip/xprint.py of this repo, over the kit's print.py: out of the translation; the oracles in it are by hand. Not trusted: Lean checks it.
namespace Go.Proofs.YtoilhnmdemnknaaDoor.XFeed
open Go.RowKit Go.Proofs.YtoilhnmdemnknaaDoorW.PrintWords Go.Proofs.YtoilhnmdemnknaaDoorW.PrintLast Go.Proofs.YtoilhnmdemnknaaDoorW.PrintMore
attribute [local go_sem] max2_int min2_int max_two min_two max_three min_three max_four min_four   -- for this text's walks alone
set_option linter.unusedVariables false
set_option linter.unusedSimpArgs false

/-! ### feed_Live: function 13 -/
end Go.Proofs.YtoilhnmdemnknaaDoor.XFeed

-- Written by wip/xprint.py of this repo, over the kit's print.py: out of the translation; the oracles in it are by hand. Not trusted: Lean checks it.
namespace Go.Proofs.YtoilhnmdemnknaaDoor.XFeed
open Go.RowKit Go.Proofs.YtoilhnmdemnknaaDoorW.PrintWords Go.Proofs.YtoilhnmdemnknaaDoorW.PrintLast Go.Proofs.YtoilhnmdemnknaaDoorW.PrintMore
attribute [local go_sem] max2_int min2_int max_two min_two max_three min_three max_four min_four   -- for this text's walks alone
set_option linter.unusedVariables false
set_option linter.unusedSimpArgs false

/-! ### feed_Right: function 15 -/
end Go.Proofs.YtoilhnmdemnknaaDoor.XFeed

-- Written by wip/xprint.py of this repo, over the kit's print.py: out of the translation; the oracles in it are by hand. Not trusted: Lean checks it.
namespace Go.Proofs.YtoilhnmdemnknaaDoor.XFeed
open Go.RowKit Go.Proofs.YtoilhnmdemnknaaDoorW.PrintWords Go.Proofs.YtoilhnmdemnknaaDoorW.PrintLast Go.Proofs.YtoilhnmdemnknaaDoorW.PrintMore
attribute [local go_sem] max2_int min2_int max_two min_two max_three min_three max_four min_four   -- for this text's walks alone
set_option linter.unusedVariables false
set_option linter.unusedSimpArgs false

/-! ### dropperlaw05_SameInts: function 21 -/
def dropperlaw05_SameInts.l0 : Nat → List Int → List Int → Int → Option (Bool)
 | 0, _, _, _ => none
 | k + 1, x0, x1, x5 => if x5 < (x0.length : Int) then (if 0 ≤ x5 then (if x5 < (x1.length : Int) then (if (rd x0 x5) = (rd x1 x5) then (dropperlaw05_SameInts.l0 k x0 x1 (wrap64 (x5 + 1))) else (some false)) else (none)) else (none)) else (some true)
end Go.Proofs.YtoilhnmdemnknaaDoor.XFeed

/- Go's bit operations on small numbers, as those of Nat. -/
namespace Go.Proofs.YtoilhnmdemnknaaDoor.Plain
open Go.RowKit Go.Proofs.YtoilhnmdemnknaaDoorW.PrintWords Go.Proofs.YtoilhnmdemnknaaDoorW.PrintLast Go.Proofs.YtoilhnmdemnknaaDoorW.PrintMore

theorem wrapU {n : Nat} (h : n < 2 ^ 62) : IntKind.u64.wrap (n : Int) = (n : Int) := by
  have e : IntKind.u64.wrap (n : Int) = (n : Int) % 18446744073709551616 := by simp [IntKind.wrap, IntKind.bits, IntKind.signed]
  rw [e]; omega
theorem wrapI {n : Nat} (h : n < 2 ^ 62) : IntKind.i64.wrap (n : Int) = (n : Int) := by
  rw [IntKind.wrap_i64]; omega
theorem ofInt_nat {w n : Nat} : BitVec.ofInt w (n : Int) = BitVec.ofNat w n := by simp
theorem and_u {x y : Nat} (hx : x < 2 ^ 62) (hy : y < 2 ^ 62) : Go.bits .and .u64 (x : Int) (y : Int) = ((x &&& y : Nat) : Int) := by
  have h : x &&& y < 2 ^ 62 := Nat.and_lt_two_pow x hy
  simp only [Go.bits, ofInt_nat, BitVec.toNat_and, BitVec.toNat_ofNat]
  rw [show IntKind.u64.bits = 64 from rfl, Nat.mod_eq_of_lt (show x < 2 ^ 64 by omega), Nat.mod_eq_of_lt (show y < 2 ^ 64 by omega)]
  exact wrapU h
theorem or_u {x y : Nat} (hx : x < 2 ^ 62) (hy : y < 2 ^ 62) : Go.bits .or .u64 (x : Int) (y : Int) = ((x ||| y : Nat) : Int) := by
  have h : x ||| y < 2 ^ 62 := Nat.or_lt_two_pow hx hy
  simp only [Go.bits, ofInt_nat, BitVec.toNat_or, BitVec.toNat_ofNat]
  rw [show IntKind.u64.bits = 64 from rfl, Nat.mod_eq_of_lt (show x < 2 ^ 64 by omega), Nat.mod_eq_of_lt (show y < 2 ^ 64 by omega)]
  exact wrapU h
theorem and_i {x y : Nat} (hx : x < 2 ^ 62) (hy : y < 2 ^ 62) : Go.bits .and .i64 (x : Int) (y : Int) = ((x &&& y : Nat) : Int) := by
  have h : x &&& y < 2 ^ 62 := Nat.and_lt_two_pow x hy
  simp only [Go.bits, ofInt_nat, BitVec.toNat_and, BitVec.toNat_ofNat]
  rw [show IntKind.i64.bits = 64 from rfl, Nat.mod_eq_of_lt (show x < 2 ^ 64 by omega), Nat.mod_eq_of_lt (show y < 2 ^ 64 by omega)]
  exact wrapI h
theorem xor_i {x y : Nat} (hx : x < 2 ^ 62) (hy : y < 2 ^ 62) : Go.bits .xor .i64 (x : Int) (y : Int) = ((x ^^^ y : Nat) : Int) := by
  have h : x ^^^ y < 2 ^ 62 := Nat.xor_lt_two_pow hx hy
  simp only [Go.bits, ofInt_nat, BitVec.toNat_xor, BitVec.toNat_ofNat]
  rw [show IntKind.i64.bits = 64 from rfl, Nat.mod_eq_of_lt (show x < 2 ^ 64 by omega), Nat.mod_eq_of_lt (show y < 2 ^ 64 by omega)]
  exact wrapI h
theorem shr_k {k : IntKind} (hk : k.bits = 64) {x i : Nat} (hi : i ≤ 64) : shr k (x : Int) (i : Int) = ((x >>> i : Nat) : Int) := by
  unfold shr
  rw [hk, Int.toNat_natCast, Nat.min_eq_left hi, Nat.shiftRight_eq_div_pow]
  simp
theorem shl_u {x i : Nat} (h : x * 2 ^ i < 2 ^ 62) (hi : i ≤ 64) : shl .u64 (x : Int) (i : Int) = ((x <<< i : Nat) : Int) := by
  unfold shl
  rw [show IntKind.u64.bits = 64 from rfl, Int.toNat_natCast, Nat.min_eq_left hi, Nat.shiftLeft_eq]
  have e : (x : Int) * 2 ^ i = ((x * 2 ^ i : Nat) : Int) := by simp
  rw [e]; exact wrapU h
theorem shl_i {x i : Nat} (h : x * 2 ^ i < 2 ^ 62) (hi : i ≤ 64) : shl .i64 (x : Int) (i : Int) = ((x <<< i : Nat) : Int) := by
  unfold shl
  rw [show IntKind.i64.bits = 64 from rfl, Int.toNat_natCast, Nat.min_eq_left hi, Nat.shiftLeft_eq]
  have e : (x : Int) * 2 ^ i = ((x * 2 ^ i : Nat) : Int) := by simp
  rw [e]; exact wrapI h
/-- a bit, as the code asks for it -/
theorem bit_u {x i : Nat} (hx : x < 2 ^ 62) (hi : i ≤ 64) : Go.bits .and .u64 (shr .u64 (x : Int) (i : Int)) 1 = (if x.testBit i then 1 else 0 : Int) := by
  have h : x >>> i < 2 ^ 62 := Nat.lt_of_le_of_lt (by rw [Nat.shiftRight_eq_div_pow]; exact Nat.div_le_self _ _) hx
  rw [shr_k rfl hi, show (1 : Int) = ((1 : Nat) : Int) from rfl, and_u h (by omega), Nat.testBit, Nat.and_comm]
  have : 1 &&& x >>> i = (x >>> i) % 2 := by rw [Nat.and_comm, Nat.and_one_is_mod]
  rw [this]
  rcases Nat.mod_two_eq_zero_or_one (x >>> i) with h | h <;> simp [h]
theorem bit_i {x i : Nat} (hx : x < 2 ^ 62) (hi : i ≤ 64) : Go.bits .and .i64 (shr .i64 (x : Int) (i : Int)) 1 = (if x.testBit i then 1 else 0 : Int) := by
  have h : x >>> i < 2 ^ 62 := Nat.lt_of_le_of_lt (by rw [Nat.shiftRight_eq_div_pow]; exact Nat.div_le_self _ _) hx
  rw [shr_k rfl hi, show (1 : Int) = ((1 : Nat) : Int) from rfl, and_i h (by omega), Nat.testBit, Nat.and_comm]
  have : 1 &&& x >>> i = (x >>> i) % 2 := by rw [Nat.and_comm, Nat.and_one_is_mod]
  rw [this]
  rcases Nat.mod_two_eq_zero_or_one (x >>> i) with h | h <;> simp [h]
end Go.Proofs.YtoilhnmdemnknaaDoor.Plain

/- The sections to which one comes over closed switches, as the program reckons them. -/
namespace Go.Proofs.YtoilhnmdemnknaaDoor.Plain
set_option linter.unusedVariables false
set_option linter.unusedSimpArgs false
open Go.RowKit Go.Proofs.YtoilhnmdemnknaaDoor.XFeed Go.Proofs.YtoilhnmdemnknaaDoorW.PrintWords Go.Proofs.YtoilhnmdemnknaaDoorW.PrintLast Go.Proofs.YtoilhnmdemnknaaDoorW.PrintMore

theorem ev_const {α : Type} {o : Option α} {r : α} (h : o = some r) : Ev (fun _ => o) r := ⟨0, fun _ _ => h⟩
theorem ev_pos {α : Type} {c : Prop} [Decidable c] {a b : Nat → Option α} {r : α} (hc : c) (h : Ev a r) : Ev (fun k => if c then a k else b k) r :=
  Ev.congr (fun k => if_pos hc) h
theorem ev_neg {α : Type} {c : Prop} [Decidable c] {a b : Nat → Option α} {r : α} (hc : ¬ c) (h : Ev b r) : Ev (fun k => if c then a k else b k) r :=
  Ev.congr (fun k => if_neg hc) h
theorem ev_some {α β : Type} {a : α} {f : Nat → α → Option β} {r : β} (h : Ev (fun k => f k a) r) : Ev (fun k => (some a).bind (f k)) r := h
theorem wrap_id {x : Int} (h0 : -9223372036854775808 ≤ x) (h1 : x ≤ 9223372036854775807) : wrap64 x = x := by unfold wrap64; omega
theorem wrap_succ (n : Nat) (h : n ≤ 4000000000000000000) : wrap64 ((n : Int) + 1) = ((n + 1 : Nat) : Int) := by rw [wrap_id] <;> omega

/-- switches between sections below n -/
def SwOk (n : Nat) (sw : List S69) : Prop := ∀ s ∈ sw, 0 ≤ s.f0 ∧ s.f0 < n ∧ 0 ≤ s.f1 ∧ s.f1 < n ∧ s.f0 ≠ s.f1
/-- one closed switch between two sections -/
def Edge (sw : List S69) (st a b : Nat) : Prop := ∃ i, ∃ h : i < sw.length, st.testBit i = true ∧ ((sw[i].f0 = a ∧ sw[i].f1 = b) ∨ (sw[i].f0 = b ∧ sw[i].f1 = a))
inductive Conn (sw : List S69) (st : Nat) (a : Nat) : Nat → Prop
  | refl : Conn sw st a a
  | step {b c : Nat} : Conn sw st a b → Edge sw st b c → Conn sw st a c
theorem rd_S69 (xs : List S69) (i : Nat) (h : i < xs.length) : rd_T69 xs (i : Int) = xs[i] := by simp [rd_T69, List.getD_eq_getElem?_getD, h]

def two (a b : Nat) : Nat := 1 <<< a ||| 1 <<< b
theorem two_bit (a b j : Nat) : (two a b).testBit j = (decide (j = a) || decide (j = b)) := by
  simp only [two, Nat.testBit_or, Nat.one_shiftLeft, Nat.testBit_two_pow]
  rw [show decide (a = j) = decide (j = a) from decide_eq_decide.2 eq_comm, show decide (b = j) = decide (j = b) from decide_eq_decide.2 eq_comm]
theorem two_lt {a b : Nat} (ha : a < 8) (hb : b < 8) : two a b < 256 := by
  have h1 : 1 <<< a < 2 ^ 8 := by rw [Nat.one_shiftLeft]; exact Nat.pow_lt_pow_right (by decide) ha
  have h2 : 1 <<< b < 2 ^ 8 := by rw [Nat.one_shiftLeft]; exact Nat.pow_lt_pow_right (by decide) hb
  exact Nat.or_lt_two_pow h1 h2
theorem and_two_zero {m a b : Nat} : m &&& two a b = 0 ↔ m.testBit a = false ∧ m.testBit b = false := by
  constructor
  · intro h
    have h2 := fun j => congrArg (fun x => x.testBit j) h
    simp only [Nat.testBit_and, two_bit, Nat.zero_testBit] at h2
    exact ⟨by simpa using h2 a, by simpa using h2 b⟩
  · rintro ⟨h1, h2⟩
    apply Nat.eq_of_testBit_eq
    intro j
    simp only [Nat.testBit_and, two_bit, Nat.zero_testBit]
    by_cases ha : j = a
    · subst ha; simp [h1]
    · by_cases hb : j = b
      · subst hb; simp [h2]
      · simp [ha, hb]
theorem and_two_all {m a b : Nat} : m &&& two a b = two a b ↔ m.testBit a = true ∧ m.testBit b = true := by
  constructor
  · intro h
    have h2 := fun j => congrArg (fun x => x.testBit j) h
    simp only [Nat.testBit_and, two_bit] at h2
    exact ⟨by simpa using h2 a, by simpa using h2 b⟩
  · rintro ⟨h1, h2⟩
    apply Nat.eq_of_testBit_eq
    intro j
    simp only [Nat.testBit_and, two_bit]
    by_cases ha : j = a
    · subst ha; simp [h1]
    · by_cases hb : j = b
      · subst hb; simp [h2]
      · simp [ha, hb]
/-- a mask that holds the sections that are come to, and only such -/
def Sound (sw : List S69) (st a m : Nat) : Prop := m < 256 ∧ m.testBit a = true ∧ ∀ j, m.testBit j = true → Conn sw st a j
def Even (sw : List S69) (st m i : Nat) : Prop := ∀ j, ∀ h : j < sw.length, j < i → st.testBit j = true → m.testBit (sw[j].f0).toNat = m.testBit (sw[j].f1).toNat
theorem conn_of_even {sw : List S69} {st a m : Nat} (hs : Sound sw st a m) (he : Even sw st m sw.length) {j : Nat} (h : Conn sw st a j) : m.testBit j = true := by
  induction h with
  | refl => exact hs.2.1
  | step _ e ih =>
    obtain ⟨i, hi, hb, h | h⟩ := e
    · have := he i hi hi hb
      rw [h.1, h.2, Int.toNat_natCast, Int.toNat_natCast] at this
      rw [← this]; exact ih
    · have := he i hi hi hb
      rw [h.1, h.2, Int.toNat_natCast, Int.toNat_natCast] at this
      rw [this]; exact ih
theorem or_two_sound {sw : List S69} {st a m : Nat} (hs : Sound sw st a m) {i : Nat} (hi : i < sw.length) (hb : st.testBit i = true) {x y : Nat} (hx : sw[i].f0 = x) (hy : sw[i].f1 = y) (hx8 : x < 8) (hy8 : y < 8)
    (h : m.testBit x = true ∨ m.testBit y = true) : Sound sw st a (m ||| two x y) := by
  have hlt8 : m ||| two x y < 2 ^ 8 := Nat.or_lt_two_pow hs.1 (two_lt hx8 hy8)
  refine ⟨hlt8, by rw [Nat.testBit_or, hs.2.1]; rfl, fun j hj => ?_⟩
  rw [Nat.testBit_or, two_bit] at hj
  have e1 : Edge sw st x y := ⟨i, hi, hb, .inl ⟨hx, hy⟩⟩
  have e2 : Edge sw st y x := ⟨i, hi, hb, .inr ⟨hx, hy⟩⟩
  by_cases hm : m.testBit j = true
  · exact hs.2.2 j hm
  · have hm2 : m.testBit j = false := by simpa using hm
    rw [hm2, Bool.false_or] at hj
    have hj2 : j = x ∨ j = y := by simpa using hj
    rcases hj2 with rfl | rfl
    · rcases h with h | h
      · exact hs.2.2 _ h
      · exact Conn.step (hs.2.2 _ h) e2
    · rcases h with h | h
      · exact Conn.step (hs.2.2 _ h) e1
      · exact hs.2.2 _ h
theorem or_gt {m t : Nat} (h : m &&& t ≠ t) : m < m ||| t := by
  refine Nat.lt_of_le_of_ne Nat.left_le_or (fun e => h ?_)
  have : (m ||| t) &&& t = t := by
    apply Nat.eq_of_testBit_eq
    intro j
    rw [Nat.testBit_and, Nat.testBit_or]
    cases m.testBit j <;> cases t.testBit j <;> rfl
  rw [← e] at this
  exact this
/-- what the program's groups are -/
def Group (sw : List S69) (st a m : Nat) : Prop := Sound sw st a m ∧ Even sw st m sw.length
theorem group_l1 (n : Int) (sw : List S69) (fe : List S71) (hsw : SwOk 8 sw) (hlen : sw.length ≤ 20) (st a : Nat) (hst : st < 2 ^ 20) (m0 : Nat)
    (IH : ∀ m, m0 < m → Sound sw st a m → ∃ r, Ev (fun k => feed_grid_group.l0 k (st : Int) (m : Int) true n sw fe) ((r : Nat) : Int) ∧ Group sw st a r) :
    ∀ (d i m : Nat) (b : Bool), i + d = sw.length → Sound sw st a m → (b = false → m = m0 ∧ Even sw st m0 i) → (b = true → m0 < m) →
    ∃ r, Ev (fun k => feed_grid_group.l1 k (st : Int) (m : Int) b sw (sw.length : Int) (i : Int) n sw fe) ((r : Nat) : Int) ∧ Group sw st a r := by
  intro d
  induction d with
  | zero =>
    intro i m b hi hs hf ht
    obtain rfl : i = sw.length := by omega
    cases b with
    | true =>
      obtain ⟨r, h1, h2⟩ := IH m (ht rfl) hs
      refine ⟨r, ?_, h2⟩
      refine Ev.step (fun k => by rw [feed_grid_group.l1]) ?_
      exact ev_neg (by omega) h1
    | false =>
      obtain ⟨rfl, he⟩ := hf rfl
      refine ⟨m, ?_, hs, he⟩
      refine Ev.step (fun k => by rw [feed_grid_group.l1]) (ev_neg (by omega) ?_)
      refine Ev.step (fun k => by rw [feed_grid_group.l0]) ?_
      exact ev_neg (by simp) (Ev.now _)
  | succ d ih =>
    intro i m b hi hs hf ht
    have hlt : i < sw.length := by omega
    have hm := hs.1
    obtain ⟨x0, x1, y0, y1, hxy⟩ := hsw sw[i] (List.getElem_mem hlt)
    obtain ⟨x, hx⟩ := Int.eq_ofNat_of_zero_le x0
    obtain ⟨y, hy⟩ := Int.eq_ofNat_of_zero_le y0
    have hx8 : x < 8 := by omega
    have hy8 : y < 8 := by omega
    have ht2 := two_lt hx8 hy8
    have start : ∀ r : Nat, Ev (fun k => if (Go.bits .and .i64 (shr .i64 (st : Int) (i : Int)) 1) = 0 then feed_grid_group.l1 k (st : Int) (m : Int) b sw (sw.length : Int) (wrap64 ((i : Int) + 1)) n sw fe else (if 0 ≤ ((rd_T69 sw (i : Int)).f0) then (if 0 ≤ ((rd_T69 sw (i : Int)).f1) then (if (Go.bits .and .u64 (m : Int) (Go.bits .or .u64 (shl .u64 1 ((rd_T69 sw (i : Int)).f0)) (shl .u64 1 ((rd_T69 sw (i : Int)).f1)))) = 0 then (feed_grid_group.l1 k (st : Int) (m : Int) b sw (sw.length : Int) (wrap64 ((i : Int) + 1)) n sw fe) else (if (Go.bits .and .u64 (m : Int) (Go.bits .or .u64 (shl .u64 1 ((rd_T69 sw (i : Int)).f0)) (shl .u64 1 ((rd_T69 sw (i : Int)).f1)))) = (Go.bits .or .u64 (shl .u64 1 ((rd_T69 sw (i : Int)).f0)) (shl .u64 1 ((rd_T69 sw (i : Int)).f1))) then (feed_grid_group.l1 k (st : Int) (m : Int) b sw (sw.length : Int) (wrap64 ((i : Int) + 1)) n sw fe) else (feed_grid_group.l1 k (st : Int) (Go.bits .or .u64 (m : Int) (Go.bits .or .u64 (shl .u64 1 ((rd_T69 sw (i : Int)).f0)) (shl .u64 1 ((rd_T69 sw (i : Int)).f1)))) true sw (sw.length : Int) (wrap64 ((i : Int) + 1)) n sw fe))) else (none)) else (none))) (r : Int) →
        Ev (fun k => feed_grid_group.l1 k (st : Int) (m : Int) b sw (sw.length : Int) (i : Int) n sw fe) (r : Int) := by
      intro r h
      refine Ev.step (fun k => by rw [feed_grid_group.l1]) ?_
      exact ev_pos (by omega) (ev_pos (by omega) (ev_pos (by omega) h))
    rw [rd_S69 sw i hlt, hx, hy] at start
    have e1 : shl .u64 1 ((x : Nat) : Int) = ((1 <<< x : Nat) : Int) := shl_u (x := 1) (by rw [Nat.one_mul]; exact Nat.lt_of_lt_of_le (Nat.pow_lt_pow_right (by decide) hx8) (by decide)) (by omega)
    have e2 : shl .u64 1 ((y : Nat) : Int) = ((1 <<< y : Nat) : Int) := shl_u (x := 1) (by rw [Nat.one_mul]; exact Nat.lt_of_lt_of_le (Nat.pow_lt_pow_right (by decide) hy8) (by decide)) (by omega)
    have s1 : 1 <<< x < 2 ^ 62 := by rw [Nat.one_shiftLeft]; exact Nat.lt_of_lt_of_le (Nat.pow_lt_pow_right (by decide) hx8) (by decide)
    have s2 : 1 <<< y < 2 ^ 62 := by rw [Nat.one_shiftLeft]; exact Nat.lt_of_lt_of_le (Nat.pow_lt_pow_right (by decide) hy8) (by decide)
    have e3 : Go.bits .or .u64 ((1 <<< x : Nat) : Int) ((1 <<< y : Nat) : Int) = ((two x y : Nat) : Int) := or_u s1 s2
    have e4 : Go.bits .and .u64 (m : Int) ((two x y : Nat) : Int) = ((m &&& two x y : Nat) : Int) := and_u (by omega) (by omega)
    have e5 : Go.bits .or .u64 (m : Int) ((two x y : Nat) : Int) = ((m ||| two x y : Nat) : Int) := or_u (by omega) (by omega)
    rw [e1, e2, e3, e4, e5, bit_i (by omega) (by omega), wrap_succ i (by omega)] at start
    have keep : ∀ (hE : st.testBit i = true → m.testBit x = m.testBit y), b = false → m = m0 ∧ Even sw st m0 (i + 1) := by
      intro hE hb
      obtain ⟨rfl, he⟩ := hf hb
      refine ⟨rfl, fun j hj hji hjb => ?_⟩
      by_cases h : j < i
      · exact he j hj h hjb
      · obtain rfl : j = i := by omega
        rw [hx, hy, Int.toNat_natCast, Int.toNat_natCast]
        exact hE hjb
    by_cases hbit : st.testBit i = true
    · rw [if_pos hbit] at start
      by_cases hz : m &&& two x y = 0
      · have hz2 := and_two_zero.1 hz
        obtain ⟨r, h1, h2⟩ := ih (i + 1) m b (by omega) hs (keep fun _ => by rw [hz2.1, hz2.2]) ht
        exact ⟨r, start r (ev_neg (by decide) (ev_pos (by omega) (ev_pos (by omega) (ev_pos (by omega) h1)))), h2⟩
      · by_cases ha : m &&& two x y = two x y
        · have ha2 := and_two_all.1 ha
          obtain ⟨r, h1, h2⟩ := ih (i + 1) m b (by omega) hs (keep fun _ => by rw [ha2.1, ha2.2]) ht
          exact ⟨r, start r (ev_neg (by decide) (ev_pos (by omega) (ev_pos (by omega) (ev_neg (by omega) (ev_pos (by omega) h1))))), h2⟩
        · have hor : m.testBit x = true ∨ m.testBit y = true := by
            by_cases h1 : m.testBit x = true
            · exact .inl h1
            · by_cases h2 : m.testBit y = true
              · exact .inr h2
              · exact absurd (and_two_zero.2 ⟨by simpa using h1, by simpa using h2⟩) hz
          have hgt := or_gt ha
          have hm0 : m0 < m ||| two x y := by
            cases b with
            | true => have := ht rfl; omega
            | false => have := (hf rfl).1; omega
          obtain ⟨r, h1, h2⟩ := ih (i + 1) (m ||| two x y) true (by omega) (or_two_sound hs hlt hbit hx hy hx8 hy8 hor) (fun h => by cases h) (fun _ => hm0)
          exact ⟨r, start r (ev_neg (by decide) (ev_pos (by omega) (ev_pos (by omega) (ev_neg (by omega) (ev_neg (by omega) h1))))), h2⟩
    · rw [if_neg hbit] at start
      obtain ⟨r, h1, h2⟩ := ih (i + 1) m b (by omega) hs (keep fun h => absurd h hbit) ht
      exact ⟨r, start r (ev_pos rfl h1), h2⟩
theorem group_l0 (n : Int) (sw : List S69) (fe : List S71) (hsw : SwOk 8 sw) (hlen : sw.length ≤ 20) (st a : Nat) (hst : st < 2 ^ 20) :
    ∀ (q m : Nat), 256 - m ≤ q → Sound sw st a m → ∃ r, Ev (fun k => feed_grid_group.l0 k (st : Int) (m : Int) true n sw fe) ((r : Nat) : Int) ∧ Group sw st a r := by
  intro q
  induction q with
  | zero => intro m hq hs; have := hs.1; omega
  | succ q ih =>
    intro m hq hs
    have hm := hs.1
    obtain ⟨r, h1, h2⟩ := group_l1 n sw fe hsw hlen st a hst m (fun m' hm' hs' => ih m' (by omega) hs') sw.length 0 m false (by omega) hs (fun _ => ⟨rfl, fun j hj hji => by omega⟩) (fun h => by cases h)
    refine ⟨r, ?_, h2⟩
    refine Ev.step (fun k => by rw [feed_grid_group.l0]) ?_
    exact ev_pos rfl h1
theorem group_ev (n : Int) (sw : List S69) (fe : List S71) (hsw : SwOk 8 sw) (hlen : sw.length ≤ 20) (st a : Nat) (hst : st < 2 ^ 20) (ha : a < 8) :
    ∃ r : Nat, Ev (fun k => feed_grid_group.f k n sw fe (st : Int) (a : Int)) ((r : Nat) : Int) ∧ r < 256 ∧ ∀ j, r.testBit j = true ↔ Conn sw st a j := by
  have e1 : shl .u64 1 ((a : Nat) : Int) = ((1 <<< a : Nat) : Int) := shl_u (x := 1) (by rw [Nat.one_mul]; exact Nat.lt_of_lt_of_le (Nat.pow_lt_pow_right (by decide) ha) (by decide)) (by omega)
  have hs : Sound sw st a (1 <<< a) := by
    refine ⟨by rw [Nat.one_shiftLeft]; exact Nat.lt_of_lt_of_le (Nat.pow_lt_pow_right (by decide) ha) (by decide), by rw [Nat.one_shiftLeft, Nat.testBit_two_pow]; simp, fun j hj => ?_⟩
    rw [Nat.one_shiftLeft, Nat.testBit_two_pow] at hj
    obtain rfl : a = j := by simpa using hj
    exact Conn.refl
  obtain ⟨r, h1, h2⟩ := group_l0 n sw fe hsw hlen st a hst 256 (1 <<< a) (Nat.sub_le _ _) hs
  refine ⟨r, ?_, h2.1.1, fun j => ⟨h2.1.2.2 j, fun h => conn_of_even h2.1 h2.2 h⟩⟩
  unfold feed_grid_group.f
  rw [e1]
  exact ev_pos (by omega) h1
end Go.Proofs.YtoilhnmdemnknaaDoor.Plain

/- With which phases the sections are fed, as the program reckons them. -/
namespace Go.Proofs.YtoilhnmdemnknaaDoor.Plain
set_option linter.unusedVariables false
set_option linter.unusedSimpArgs false
open Go.RowKit Go.Proofs.YtoilhnmdemnknaaDoor.XFeed Go.Proofs.YtoilhnmdemnknaaDoorW.PrintWords Go.Proofs.YtoilhnmdemnknaaDoorW.PrintLast Go.Proofs.YtoilhnmdemnknaaDoorW.PrintMore

def FeOk (n : Nat) (fe : List S71) : Prop := ∀ f ∈ fe, 0 ≤ f.f0 ∧ f.f0 < n ∧ 1 ≤ f.f1 ∧ f.f1 ≤ 3
/-- the phases of a section -/
def Mask (sw : List S69) (st : Nat) (fs : List S71) (i m : Nat) : Prop :=
  m < 16 ∧ ∀ p, m.testBit p = true ↔ ∃ f ∈ fs, f.f1 = (p : Int) ∧ Conn sw st f.f0.toNat i
theorem rd_S71 (xs : List S71) (i : Nat) (h : i < xs.length) : rd_T71 xs (i : Int) = xs[i] := by simp [rd_T71, List.getD_eq_getElem?_getD, h]
theorem rd_set (l : List Int) (i j : Nat) (v : Int) (hi : i < l.length) : rd (l.set i v) (j : Int) = if j = i then v else rd l (j : Int) := by
  simp only [rd, Int.toNat_natCast, List.getD_eq_getElem?_getD, List.getElem?_set]
  by_cases h : i = j
  · subst h; simp [hi]
  · rw [if_neg h, if_neg (fun e => h e.symm)]
theorem mask_no {sw : List S69} {st : Nat} {fs : List S71} {f : S71} {i m : Nat} (h : Mask sw st fs i m) (hn : ¬ Conn sw st f.f0.toNat i) : Mask sw st (fs ++ [f]) i m := by
  refine ⟨h.1, fun p => ?_⟩
  rw [h.2 p]
  constructor
  · rintro ⟨x, hx, h1, h2⟩; exact ⟨x, List.mem_append_left _ hx, h1, h2⟩
  · rintro ⟨x, hx, h1, h2⟩
    rcases List.mem_append.1 hx with hx | hx
    · exact ⟨x, hx, h1, h2⟩
    · obtain rfl : x = f := by simpa using hx
      exact absurd h2 hn
theorem mask_yes {sw : List S69} {st : Nat} {fs : List S71} {f : S71} {i m q : Nat} (h : Mask sw st fs i m) (hc : Conn sw st f.f0.toNat i) (hq : f.f1 = (q : Int)) (hq4 : q < 4) : Mask sw st (fs ++ [f]) i (m ||| 1 <<< q) := by
  have hlt : m ||| 1 <<< q < 2 ^ 4 := Nat.or_lt_two_pow h.1 (by rw [Nat.one_shiftLeft]; exact Nat.pow_lt_pow_right (by decide) hq4)
  refine ⟨hlt, fun p => ?_⟩
  rw [Nat.testBit_or, Bool.or_eq_true, h.2 p, Nat.one_shiftLeft, Nat.testBit_two_pow, decide_eq_true_eq]
  constructor
  · rintro (⟨x, hx, h1, h2⟩ | rfl)
    · exact ⟨x, List.mem_append_left _ hx, h1, h2⟩
    · exact ⟨f, by simp, hq, hc⟩
  · rintro ⟨x, hx, h1, h2⟩
    rcases List.mem_append.1 hx with hx | hx
    · exact .inl ⟨x, hx, h1, h2⟩
    · obtain rfl : x = f := by simpa using hx
      right; omega
def Fed (sw : List S69) (st n : Nat) (fs : List S71) (l : List Int) : Prop := l.length = n ∧ ∀ i, i < n → ∃ m, rd l (i : Int) = ((m : Nat) : Int) ∧ Mask sw st fs i m
theorem fed_l1 (n : Nat) (hn : n ≤ 8) (sw : List S69) (fe : List S71) (st : Nat) (f : S71) (hf : 1 ≤ f.f1 ∧ f.f1 ≤ 3) (fs : List S71) (q : Nat) (g : Nat) (hg : g < 256) (hgc : ∀ j, g.testBit j = true ↔ Conn sw st f.f0.toNat j)
    (hend : ∀ l', Fed sw st n (fs ++ [f]) l' → ∃ r, Ev (fun k => feed_grid_fed.l0 k (st : Int) l' fe (fe.length : Int) (wrap64 ((q : Int) + 1)) (n : Int) sw fe) r ∧ Fed sw st n fe r) :
    ∀ (d i : Nat) (l : List Int), i + d = n → l.length = n → (∀ j, j < n → ∃ m, rd l (j : Int) = ((m : Nat) : Int) ∧ Mask sw st (if j < i then fs ++ [f] else fs) j m) →
    ∃ r, Ev (fun k => feed_grid_fed.l1 k (st : Int) l (g : Int) fe (fe.length : Int) (q : Int) (n : Int) (i : Int) (n : Int) sw fe f.f0 f.f1) r ∧ Fed sw st n fe r := by
  intro d
  induction d with
  | zero =>
    intro i l hi hl hm
    obtain rfl : i = n := by omega
    obtain ⟨r, h1, h2⟩ := hend l ⟨hl, fun j hj => by
      obtain ⟨m, e, h⟩ := hm j hj
      rw [if_pos hj] at h
      exact ⟨m, e, h⟩⟩
    refine ⟨r, ?_, h2⟩
    refine Ev.step (fun k => by rw [feed_grid_fed.l1]) ?_
    exact ev_neg (by omega) h1
  | succ d ih =>
    intro i l hi hl hm
    obtain ⟨m, e, h⟩ := hm i (by omega)
    rw [if_neg (by omega)] at h
    have hm16 := h.1
    have hb := bit_u (x := g) (i := i) (by omega) (by omega)
    by_cases hc : g.testBit i = true
    · have hcc := (hgc i).1 hc
      rw [if_pos hc] at hb
      obtain ⟨p, hp⟩ := Int.eq_ofNat_of_zero_le (show 0 ≤ f.f1 by omega)
      have s1 : 1 <<< p < 2 ^ 62 := by rw [Nat.one_shiftLeft]; exact Nat.lt_of_lt_of_le (Nat.pow_lt_pow_right (by decide) (show p < 4 by omega)) (by decide)
      have e1 : shl .u64 1 ((p : Nat) : Int) = ((1 <<< p : Nat) : Int) := shl_u (x := 1) (by rw [Nat.one_mul]; exact Nat.lt_of_lt_of_le (Nat.pow_lt_pow_right (by decide) (show p < 4 by omega)) (by decide)) (by omega)
      have e2 : Go.bits .or .u64 (m : Int) ((1 <<< p : Nat) : Int) = ((m ||| 1 <<< p : Nat) : Int) := or_u (by omega) s1
      obtain ⟨r, h1, h2⟩ := ih (i + 1) (l.set i ((m ||| 1 <<< p : Nat) : Int)) (by omega) (by rw [List.length_set]; exact hl) (fun j hj => by
        rw [rd_set _ _ _ _ (by omega)]
        by_cases hji : j = i
        · subst hji
          rw [if_pos rfl, if_pos (by omega)]
          exact ⟨_, rfl, mask_yes h hcc hp (by omega)⟩
        · rw [if_neg hji]
          obtain ⟨m', e', h'⟩ := hm j hj
          refine ⟨m', e', ?_⟩
          by_cases hlt : j < i
          · rw [if_pos hlt] at h'; rw [if_pos (by omega)]; exact h'
          · rw [if_neg hlt] at h'; rw [if_neg (by omega)]; exact h')
      refine ⟨r, ?_, h2⟩
      refine Ev.step (fun k => by rw [feed_grid_fed.l1]) ?_
      rw [hb, e, hp, e1, e2, wrap_succ i (by omega), Int.toNat_natCast]
      rw [hp] at h1
      exact ev_pos (by omega) (ev_pos (by omega) (ev_pos rfl (ev_pos (by omega) (ev_pos (by omega) h1))))
    · rw [if_neg hc] at hb
      obtain ⟨r, h1, h2⟩ := ih (i + 1) l (by omega) hl (fun j hj => by
        obtain ⟨m', e', h'⟩ := hm j hj
        refine ⟨m', e', ?_⟩
        by_cases hji : j = i
        · subst hji
          rw [if_neg (by omega)] at h'
          rw [if_pos (by omega)]
          exact mask_no h' (fun hx => hc ((hgc j).2 hx))
        · by_cases hlt : j < i
          · rw [if_pos hlt] at h'; rw [if_pos (by omega)]; exact h'
          · rw [if_neg hlt] at h'; rw [if_neg (by omega)]; exact h')
      refine ⟨r, ?_, h2⟩
      refine Ev.step (fun k => by rw [feed_grid_fed.l1]) ?_
      rw [hb, wrap_succ i (by omega)]
      exact ev_pos (by omega) (ev_pos (by omega) (ev_neg (by decide) h1))
theorem fed_l0 (n : Nat) (hn : n ≤ 8) (sw : List S69) (hsw : SwOk 8 sw) (hlen : sw.length ≤ 20) (fe : List S71) (hfe : FeOk n fe) (hfl : fe.length ≤ 20) (st : Nat) (hst : st < 2 ^ 20) :
    ∀ (d q : Nat) (l : List Int), q + d = fe.length → Fed sw st n (fe.take q) l → ∃ r, Ev (fun k => feed_grid_fed.l0 k (st : Int) l fe (fe.length : Int) (q : Int) (n : Int) sw fe) r ∧ Fed sw st n fe r := by
  intro d
  induction d with
  | zero =>
    intro q l hq hl
    obtain rfl : q = fe.length := by omega
    rw [List.take_length] at hl
    refine ⟨l, ?_, hl⟩
    refine Ev.step (fun k => by rw [feed_grid_fed.l0]) ?_
    exact ev_neg (by omega) (Ev.now _)
  | succ d ih =>
    intro q l hq hl
    have hlt : q < fe.length := by omega
    obtain ⟨f0, f1, f2, f3⟩ := hfe fe[q] (List.getElem_mem hlt)
    have htk : fe.take (q + 1) = fe.take q ++ [fe[q]] := List.take_succ_eq_append_getElem hlt
    obtain ⟨g, hg1, hg2, hg3⟩ := group_ev (n : Int) sw fe hsw hlen st fe[q].f0.toNat hst (by omega)
    rw [Int.toNat_of_nonneg f0] at hg1
    obtain ⟨r, h1, h2⟩ := fed_l1 n hn sw fe st fe[q] ⟨f2, f3⟩ (fe.take q) q g hg2 hg3 (fun l' hl' => by
      rw [wrap_succ q (by omega)]
      rw [← htk] at hl'
      exact ih (q + 1) l' (by omega) hl') n 0 l (by omega) hl.1 (fun j hj => by rw [if_neg (by omega)]; exact hl.2 j hj)
    refine ⟨r, ?_, h2⟩
    refine Ev.step (fun k => by rw [feed_grid_fed.l0]) ?_
    rw [rd_S71 fe q hlt]
    refine ev_pos (by omega) (ev_pos (by omega) (ev_pos (by omega) (Ev.bind hg1 ?_)))
    rw [hl.1]
    exact h1
theorem fed_ev (n : Nat) (hn : n ≤ 8) (sw : List S69) (hsw : SwOk 8 sw) (hlen : sw.length ≤ 20) (fe : List S71) (hfe : FeOk n fe) (hfl : fe.length ≤ 20) (st : Nat) (hst : st < 2 ^ 20) :
    ∃ r, Ev (fun k => feed_grid_fed.f k (n : Int) sw fe (st : Int)) r ∧ Fed sw st n fe r := by
  obtain ⟨r, h1, h2⟩ := fed_l0 n hn sw hsw hlen fe hfe hfl st hst fe.length 0 (List.replicate n 0) (by omega) ⟨List.length_replicate, fun i hi => ⟨0, by simp [rd, hi], by decide, fun p => by simp⟩⟩
  refine ⟨r, ?_, h2⟩
  unfold feed_grid_fed.f
  rw [Int.toNat_natCast]
  exact ev_pos (by omega) (ev_pos (by omega) h1)
end Go.Proofs.YtoilhnmdemnknaaDoor.Plain

/- Which grids are as described: program and document say the same. -/
namespace Go.Proofs.YtoilhnmdemnknaaDoor.Plain
set_option linter.unusedVariables false
set_option linter.unusedSimpArgs false
open Go.RowKit Go.Proofs.YtoilhnmdemnknaaDoor.XFeed Go.Proofs.YtoilhnmdemnknaaDoorW.PrintWords Go.Proofs.YtoilhnmdemnknaaDoorW.PrintLast Go.Proofs.YtoilhnmdemnknaaDoorW.PrintMore

def SwIs (N : Int) (s : S69) : Prop := 0 ≤ s.f0 ∧ s.f0 < N ∧ 0 ≤ s.f1 ∧ s.f1 < N ∧ s.f0 ≠ s.f1
def FeIs (N : Int) (f : S71) : Prop := 0 ≤ f.f0 ∧ f.f0 < N ∧ 1 ≤ f.f1 ∧ f.f1 ≤ 3
def GridOk (N : Int) (sw : List S69) (fe : List S71) : Prop :=
  1 ≤ N ∧ N ≤ 8 ∧ sw.length ≤ 10 ∧ fe.length ≤ 6 ∧ (∀ s ∈ sw, SwIs N s) ∧ ∀ f ∈ fe, FeIs N f
theorem bad1_iff {N : Int} (h1 : 1 ≤ N) (h2 : N ≤ 8) (s : S69) : feed_Valid.bad1 N s = true ↔ ¬ SwIs N s := by
  unfold feed_Valid.bad1 SwIs
  rw [wrap_id (x := N - 1) (by omega) (by omega)]
  simp only [Bool.or_eq_true, Bool.not_eq_true', Bool.and_eq_false_iff, decide_eq_false_iff_not, beq_iff_eq]
  omega
theorem bad2_iff {N : Int} (h1 : 1 ≤ N) (h2 : N ≤ 8) (f : S71) : feed_Valid.bad2 N f = true ↔ ¬ FeIs N f := by
  unfold feed_Valid.bad2 FeIs
  rw [wrap_id (x := N - 1) (by omega) (by omega)]
  simp only [Bool.or_eq_true, Bool.not_eq_true', Bool.and_eq_false_iff, decide_eq_false_iff_not]
  omega
open Classical in
theorem valid_f (N : Int) (sw : List S69) (fe : List S71) : feed_Valid.f N sw fe = some (decide (GridOk N sw fe)) := by
  unfold feed_Valid.f
  congr 1
  rw [Bool.eq_iff_iff, decide_eq_true_eq]
  simp only [Bool.and_eq_true, decide_eq_true_eq, Bool.not_eq_true', List.any_eq_false]
  unfold GridOk
  constructor
  · rintro ⟨⟨h1, h2⟩, h3, h4, h5, h6⟩
    refine ⟨h1, h2, by omega, by omega, fun s hs => ?_, fun f hf => ?_⟩
    · have := h5 s hs
      rw [bad1_iff h1 h2] at this
      exact Classical.not_not.1 this
    · have := h6 f hf
      rw [bad2_iff h1 h2] at this
      exact Classical.not_not.1 this
  · rintro ⟨h1, h2, h3, h4, h5, h6⟩
    refine ⟨⟨h1, h2⟩, by omega, by omega, fun s hs => ?_, fun f hf => ?_⟩
    · rw [bad1_iff h1 h2]; exact fun h => h (h5 s hs)
    · rw [bad2_iff h1 h2]; exact fun h => h (h6 f hf)
theorem section_f (N : Int) (sw : List S69) (fe : List S71) (x : Int) : dropperref05_section.f N sw fe x = some (decide (0 ≤ x ∧ x < N)) := by
  unfold dropperref05_section.f
  by_cases h : x ≥ 0
  · rw [if_pos h]; congr 1; rw [decide_eq_decide]; omega
  · rw [if_neg h]; congr 1; symm; rw [decide_eq_false_iff_not]; omega
open Classical in
theorem rvalid_l1 (N : Int) (sw : List S69) (fe : List S71) (hl : fe.length ≤ 6) : ∀ (d i : Nat), i + d = fe.length → (∀ j (h : j < fe.length), j < i → FeIs N fe[j]) →
    Ev (fun k => dropperref05_Valid.l1 k (i : Int) N sw fe) (decide (∀ f ∈ fe, FeIs N f)) := by
  intro d
  induction d with
  | zero =>
    intro i hi hb
    refine Ev.step (fun k => by rw [dropperref05_Valid.l1]) ?_
    refine ev_neg (by omega) (ev_const ?_)
    rw [decide_eq_true]
    intro f hf
    obtain ⟨j, hj, rfl⟩ := List.mem_iff_getElem.1 hf
    exact hb j hj (by omega)
  | succ d ih =>
    intro i hi hb
    have hlt : i < fe.length := by omega
    have no : ¬ FeIs N fe[i] → (false : Bool) = decide (∀ f ∈ fe, FeIs N f) := fun h => by
      symm; rw [decide_eq_false_iff_not]; exact fun h2 => h (h2 _ (List.getElem_mem hlt))
    refine Ev.step (fun k => by rw [dropperref05_Valid.l1]) ?_
    rw [rd_S71 fe i hlt, section_f, wrap_succ i (by omega)]
    refine ev_pos (by omega) (ev_pos (by omega) (ev_some ?_))
    by_cases h0 : 0 ≤ fe[i].f0 ∧ fe[i].f0 < N
    · refine ev_pos (decide_eq_true h0) ?_
      by_cases h1 : fe[i].f1 < 1
      · exact ev_pos h1 (ev_const (congrArg some (no (fun h => by unfold FeIs at h; omega))))
      refine ev_neg h1 ?_
      by_cases h2 : fe[i].f1 > 3
      · exact ev_pos h2 (ev_const (congrArg some (no (fun h => by unfold FeIs at h; omega))))
      refine ev_neg h2 (ih (i + 1) (by omega) (fun j hj hji => ?_))
      by_cases h : j < i
      · exact hb j hj h
      · obtain rfl : j = i := by omega
        unfold FeIs; omega
    · exact ev_neg (by simpa using h0) (ev_const (congrArg some (no (fun h => h0 ⟨h.1, h.2.1⟩))))
open Classical in
theorem rvalid_l0 (N : Int) (sw : List S69) (fe : List S71) (hl : fe.length ≤ 6) (hs : sw.length ≤ 10) : ∀ (d i : Nat), i + d = sw.length → (∀ j (h : j < sw.length), j < i → SwIs N sw[j]) →
    Ev (fun k => dropperref05_Valid.l0 k (i : Int) N sw fe) (decide ((∀ s ∈ sw, SwIs N s) ∧ ∀ f ∈ fe, FeIs N f)) := by
  intro d
  induction d with
  | zero =>
    intro i hi hb
    have hall : ∀ s ∈ sw, SwIs N s := by
      intro f hf
      obtain ⟨j, hj, rfl⟩ := List.mem_iff_getElem.1 hf
      exact hb j hj (by omega)
    have e : decide ((∀ s ∈ sw, SwIs N s) ∧ ∀ f ∈ fe, FeIs N f) = decide (∀ f ∈ fe, FeIs N f) := by
      rw [decide_eq_decide]; exact ⟨fun h => h.2, fun h => ⟨hall, h⟩⟩
    rw [e]
    refine Ev.step (fun k => by rw [dropperref05_Valid.l0]) ?_
    exact ev_neg (by omega) (rvalid_l1 N sw fe hl fe.length 0 (by omega) (fun j h hj => by omega))
  | succ d ih =>
    intro i hi hb
    have hlt : i < sw.length := by omega
    have no : ¬ SwIs N sw[i] → (false : Bool) = decide ((∀ s ∈ sw, SwIs N s) ∧ ∀ f ∈ fe, FeIs N f) := fun h => by
      symm; rw [decide_eq_false_iff_not]; exact fun h2 => h (h2.1 _ (List.getElem_mem hlt))
    refine Ev.step (fun k => by rw [dropperref05_Valid.l0]) ?_
    rw [rd_S69 sw i hlt, section_f, section_f, wrap_succ i (by omega)]
    refine ev_pos (by omega) (ev_pos (by omega) (ev_some ?_))
    by_cases h0 : 0 ≤ sw[i].f0 ∧ sw[i].f0 < N
    · refine ev_pos (decide_eq_true h0) (ev_some ?_)
      by_cases h1 : 0 ≤ sw[i].f1 ∧ sw[i].f1 < N
      · refine ev_pos (decide_eq_true h1) ?_
        by_cases h2 : sw[i].f0 = sw[i].f1
        · exact ev_pos h2 (ev_const (congrArg some (no (fun h => h.2.2.2.2 h2))))
        refine ev_neg h2 (ih (i + 1) (by omega) (fun j hj hji => ?_))
        by_cases h : j < i
        · exact hb j hj h
        · obtain rfl : j = i := by omega
          exact ⟨h0.1, h0.2, h1.1, h1.2, h2⟩
      · exact ev_neg (by simpa using h1) (ev_const (congrArg some (no (fun h => h1 ⟨h.2.2.1, h.2.2.2.1⟩))))
    · exact ev_neg (by simpa using h0) (ev_const (congrArg some (no (fun h => h0 ⟨h.1, h.2.1⟩))))
open Classical in
theorem rvalid_ev (N : Int) (sw : List S69) (fe : List S71) : Ev (fun k => dropperref05_Valid.f k N sw fe) (decide (GridOk N sw fe)) := by
  have no : ¬ GridOk N sw fe → Ev (fun k => dropperref05_Valid.j0 k true N sw fe) (decide (GridOk N sw fe)) := fun h => by
    rw [decide_eq_false h]
    refine Ev.step (fun k => by rw [dropperref05_Valid.j0]) ?_
    exact ev_pos rfl (Ev.now _)
  unfold dropperref05_Valid.f
  by_cases h1 : N < 1
  · exact ev_pos h1 (no (fun h => by have := h.1; omega))
  refine ev_neg h1 ?_
  by_cases h2 : N > 8
  · exact ev_pos h2 (no (fun h => by have := h.2.1; omega))
  refine ev_neg h2 ?_
  by_cases h3 : (sw.length : Int) > 10
  · exact ev_pos h3 (no (fun h => by have := h.2.2.1; omega))
  refine ev_neg h3 ?_
  by_cases h4 : (fe.length : Int) > 6
  · rw [decide_eq_true h4]
    exact no (fun h => by have := h.2.2.2.1; omega)
  rw [decide_eq_false h4]
  refine Ev.step (fun k => by rw [dropperref05_Valid.j0]) (ev_neg (by simp) ?_)
  have e : decide (GridOk N sw fe) = decide ((∀ s ∈ sw, SwIs N s) ∧ ∀ f ∈ fe, FeIs N f) := by
    rw [decide_eq_decide]
    exact ⟨fun h => h.2.2.2.2, fun h => ⟨by omega, by omega, by omega, by omega, h⟩⟩
  rw [e]
  exact rvalid_l0 N sw fe (by omega) (by omega) sw.length 0 (by omega) (fun j h hj => by omega)
end Go.Proofs.YtoilhnmdemnknaaDoor.Plain

/- What is live, and which states are right, as the program reckons them. -/
namespace Go.Proofs.YtoilhnmdemnknaaDoor.Plain
set_option linter.unusedVariables false
set_option linter.unusedSimpArgs false
open Go.RowKit Go.Proofs.YtoilhnmdemnknaaDoor.XFeed Go.Proofs.YtoilhnmdemnknaaDoorW.PrintWords Go.Proofs.YtoilhnmdemnknaaDoorW.PrintLast Go.Proofs.YtoilhnmdemnknaaDoorW.PrintMore

def cn (m : Nat) : Nat := ((List.range 4).filter m.testBit).length
def lv (m : Nat) : Int := if cn m = 0 then 0 else if cn m = 1 then (if m = 1 then 0 else if m = 2 then 1 else if m = 4 then 2 else 3) else -1
theorem ones16 : ∀ m : Nat, m < 16 → bits_OnesCount.f (m : Int) = some (cn m : Int) := by decide +kernel
theorem tz16 : ∀ m : Nat, m < 16 → cn m = 1 → bits_TrailingZeros.f (m : Int) = some (lv m) := by decide +kernel
/-- a section's mark -/
def Mark (sw : List S69) (st n : Nat) (fe : List S71) (l : List Int) : Prop := l.length = n ∧ ∀ i, i < n → ∃ m, rd l (i : Int) = lv m ∧ Mask sw st fe i m
theorem live_l0 (n : Nat) (hn : n ≤ 8) (sw : List S69) (fe : List S71) (st : Nat) (t : List Int) (ht : Fed sw st n fe t) :
    ∀ (d i : Nat) (acc : List Int), i + d = n → acc.length = i → (∀ j, j < i → ∃ m, rd acc (j : Int) = lv m ∧ Mask sw st fe j m) →
    ∃ r, Ev (fun k => feed_grid_live.l0 k acc t (t.length : Int) (i : Int)) r ∧ Mark sw st n fe r := by
  intro d
  induction d with
  | zero =>
    intro i acc hi ha hm
    obtain rfl : i = n := by omega
    have := ht.1
    refine ⟨acc, ?_, ha, hm⟩
    refine Ev.step (fun k => by rw [feed_grid_live.l0]) ?_
    exact ev_neg (by omega) (Ev.now _)
  | succ d ih =>
    intro i acc hi ha hm
    have hl := ht.1
    obtain ⟨m, e, hM⟩ := ht.2 i (by omega)
    have hm16 := hM.1
    have next : ∃ r, Ev (fun k => feed_grid_live.l0 k (acc ++ [lv m]) t (t.length : Int) ((i + 1 : Nat) : Int)) r ∧ Mark sw st n fe r := by
      refine ih (i + 1) (acc ++ [lv m]) (by omega) (by simp [ha]) (fun j hj => ?_)
      by_cases h : j < i
      · obtain ⟨m', e', h'⟩ := hm j h
        refine ⟨m', ?_, h'⟩
        rw [← e']
        simp [rd, List.getD_eq_getElem?_getD, List.getElem?_append_left (show j < acc.length by omega)]
      · obtain rfl : j = i := by omega
        refine ⟨m, ?_, hM⟩
        simp [rd, List.getD_eq_getElem?_getD, ← ha]
    obtain ⟨r, h1, h2⟩ := next
    refine ⟨r, ?_, h2⟩
    refine Ev.step (fun k => by rw [feed_grid_live.l0]) ?_
    rw [e, ones16 m hm16, wrap_succ i (by omega)]
    refine ev_pos (by omega) (ev_pos (by omega) (ev_pos (by omega) (ev_some ?_)))
    by_cases c0 : cn m = 0
    · have e0 : lv m = 0 := by unfold lv; rw [if_pos c0]
      rw [e0] at h1
      exact ev_pos (by omega) (ev_pos (by omega) h1)
    · refine ev_neg (by omega) ?_
      by_cases c1 : cn m = 1
      · rw [tz16 m hm16 c1]
        exact ev_pos (by omega) (ev_some (ev_pos (by omega) h1))
      · have e1 : lv m = -1 := by unfold lv; rw [if_neg c0, if_neg c1]
        rw [e1] at h1
        exact ev_neg (by omega) (ev_pos (by omega) h1)
theorem live_ev (n : Nat) (hn : n ≤ 8) (sw : List S69) (hsw : SwOk 8 sw) (hlen : sw.length ≤ 20) (fe : List S71) (hfe : FeOk n fe) (hfl : fe.length ≤ 20) (st : Nat) (hst : st < 2 ^ 20) :
    ∃ r, Ev (fun k => feed_grid_live.f k (n : Int) sw fe (st : Int)) r ∧ Mark sw st n fe r := by
  obtain ⟨t, h1, h2⟩ := fed_ev n hn sw hsw hlen fe hfe hfl st hst
  obtain ⟨r, h3, h4⟩ := live_l0 n hn sw fe st t h2 n 0 [] (by omega) rfl (fun j hj => by omega)
  refine ⟨r, ?_, h4⟩
  unfold feed_grid_live.f
  exact Ev.bind h1 h3
theorem index_l0 (l : List Int) (hl : l.length ≤ 100) (v : Int) : ∀ (d i : Nat), i + d = l.length → (∀ j (h : j < l.length), j < i → l[j] ≠ v) →
    ∃ r : Int, Ev (fun k => slices_Index_int_int.l0 k l v (l.length : Int) (i : Int)) r ∧ (0 ≤ r ↔ v ∈ l) := by
  intro d
  induction d with
  | zero =>
    intro i hi hb
    refine ⟨-1, ?_, ?_⟩
    · refine Ev.step (fun k => by rw [slices_Index_int_int.l0]) ?_
      exact ev_neg (by omega) (Ev.now _)
    · constructor
      · intro h; omega
      · intro h
        obtain ⟨j, hj, e⟩ := List.mem_iff_getElem.1 h
        exact absurd e (hb j hj (by omega))
  | succ d ih =>
    intro i hi hb
    have hlt : i < l.length := by omega
    have hr : rd l (i : Int) = l[i] := by simp [rd, List.getD_eq_getElem?_getD, hlt]
    by_cases he : v = l[i]
    · refine ⟨i, ?_, ?_⟩
      · refine Ev.step (fun k => by rw [slices_Index_int_int.l0]) ?_
        rw [hr]
        exact ev_pos (by omega) (ev_pos (by omega) (ev_pos (by omega) (ev_pos he (Ev.now _))))
      · exact ⟨fun _ => he ▸ List.getElem_mem hlt, fun _ => by omega⟩
    · obtain ⟨r, h1, h2⟩ := ih (i + 1) (by omega) (fun j hj hji => by
        by_cases h : j < i
        · exact hb j hj h
        · obtain rfl : j = i := by omega
          exact fun e => he e.symm)
      refine ⟨r, ?_, h2⟩
      refine Ev.step (fun k => by rw [slices_Index_int_int.l0]) ?_
      rw [hr, wrap_succ i (by omega)]
      exact ev_pos (by omega) (ev_pos (by omega) (ev_pos (by omega) (ev_neg he h1)))
theorem contains_ev (l : List Int) (hl : l.length ≤ 100) (v : Int) : Ev (fun k => slices_Contains_int_int.f k l v) (decide (v ∈ l)) := by
  obtain ⟨r, h1, h2⟩ := index_l0 l hl v l.length 0 (by omega) (fun j h hj => by omega)
  unfold slices_Contains_int_int.f slices_Index_int_int.f
  refine Ev.bind h1 (ev_const ?_)
  congr 1
  rw [decide_eq_decide]
  exact h2
theorem mask_unique {sw : List S69} {st : Nat} {fe : List S71} {i m m' : Nat} (h : Mask sw st fe i m) (h' : Mask sw st fe i m') : m = m' := by
  apply Nat.eq_of_testBit_eq
  intro p
  rw [Bool.eq_iff_iff, h.2, h'.2]
end Go.Proofs.YtoilhnmdemnknaaDoor.Plain

/- Live, Right, States of a grid as described. -/
namespace Go.Proofs.YtoilhnmdemnknaaDoor.Plain
set_option linter.unusedVariables false
set_option linter.unusedSimpArgs false
open Go.RowKit Go.Proofs.YtoilhnmdemnknaaDoor.XFeed Go.Proofs.YtoilhnmdemnknaaDoorW.PrintWords Go.Proofs.YtoilhnmdemnknaaDoorW.PrintLast Go.Proofs.YtoilhnmdemnknaaDoorW.PrintMore

theorem GridOk.sw8 {n : Nat} {sw : List S69} {fe : List S71} (h : GridOk (n : Int) sw fe) : SwOk 8 sw := fun s hs => by
  have := h.2.2.2.2.1 s hs
  have := h.2.1
  unfold SwIs at *
  omega
theorem GridOk.fe {n : Nat} {sw : List S69} {fe : List S71} (h : GridOk (n : Int) sw fe) : FeOk n fe := fun f hf => h.2.2.2.2.2 f hf
theorem all_f (N : Int) (sw : List S69) (fe : List S71) (h : sw.length ≤ 10) : feed_grid_all.f N sw fe = some ((2 ^ sw.length : Nat) : Int) := by
  unfold feed_grid_all.f
  have hp : 2 ^ sw.length ≤ 2 ^ 10 := Nat.pow_le_pow_right (by decide) h
  rw [show (1 : Int) = ((1 : Nat) : Int) from rfl, shl_i (by omega) (by omega), Nat.one_shiftLeft]
theorem within_f (a b c : Int) : feed_within.f a b c = some (decide (a ≤ b ∧ b ≤ c)) := by
  unfold feed_within.f
  by_cases h : a ≤ b
  · rw [if_pos h]; congr 1; rw [decide_eq_decide]; omega
  · rw [if_neg h]; congr 1; symm; rw [decide_eq_false_iff_not]; omega
open Classical in
theorem open_f (N : Int) (sw : List S69) (fe : List S71) (st : Int) :
    feed_open.f N sw fe st = some (N, if GridOk N sw fe then (if 0 ≤ st ∧ st < ((2 ^ sw.length : Nat) : Int) then 0 else 51) else 50) := by
  unfold feed_open.f
  rw [valid_f]
  by_cases h : GridOk N sw fe
  · have hl := h.2.2.1
    have hp : 2 ^ sw.length ≤ 2 ^ 10 := Nat.pow_le_pow_right (by decide) hl
    rw [decide_eq_true h, if_pos h]
    simp only [Option.bind_some, if_true]
    rw [all_f N sw fe hl]
    simp only [Option.bind_some]
    generalize 2 ^ sw.length = P at *
    rw [wrap_id (by omega) (by omega), within_f]
    simp only [Option.bind_some]
    by_cases h2 : 0 ≤ st ∧ st < (P : Int)
    · rw [if_pos (decide_eq_true (by omega)), if_pos h2]
    · rw [if_neg (by simp only [decide_eq_true_eq]; omega), if_neg h2]
  · rw [decide_eq_false h, if_neg h]; rfl
end Go.Proofs.YtoilhnmdemnknaaDoor.Plain

/- One more closed switch never takes anything away. -/
namespace Go.Proofs.YtoilhnmdemnknaaDoor.Plain
set_option linter.unusedVariables false
set_option linter.unusedSimpArgs false
open Go.RowKit Go.Proofs.YtoilhnmdemnknaaDoor.XFeed Go.Proofs.YtoilhnmdemnknaaDoorW.PrintWords Go.Proofs.YtoilhnmdemnknaaDoorW.PrintLast Go.Proofs.YtoilhnmdemnknaaDoorW.PrintMore

theorem mask_zero {sw : List S69} {st n : Nat} {fe : List S71} (hfe : FeOk n fe) {i m : Nat} (h : Mask sw st fe i m) : m.testBit 0 = false := by
  rw [Bool.eq_false_iff]
  intro hb
  obtain ⟨f, hf, e, _⟩ := (h.2 0).1 hb
  have := hfe f hf
  omega
end Go.Proofs.YtoilhnmdemnknaaDoor.Plain

/- What the document's answer reckons: from, live, right, States; and that it is what the program reckons. -/
namespace Go.Proofs.YtoilhnmdemnknaaDoor.Plain
set_option linter.unusedVariables false
set_option linter.unusedSimpArgs false
open Go.RowKit Go.Proofs.YtoilhnmdemnknaaDoor.XFeed Go.Proofs.YtoilhnmdemnknaaDoorW.PrintWords Go.Proofs.YtoilhnmdemnknaaDoorW.PrintLast Go.Proofs.YtoilhnmdemnknaaDoorW.PrintMore

/-- a mask as a list -/
def bl (n m : Nat) : List Bool := (List.range n).map m.testBit
theorem bl_len (n m : Nat) : (bl n m).length = n := by simp [bl]
theorem rd_bl {n m i : Nat} (h : i < n) : rdOf false (bl n m) (i : Int) = m.testBit i := by simp [rdOf, bl, List.getD_eq_getElem?_getD, h]
theorem bl_set2 {n m x y : Nat} (hx : x < n) (hy : y < n) : ((bl n m).set x true).set y true = bl n (m ||| two x y) := by
  apply List.ext_getElem
  · simp [bl]
  · intro i h1 h2
    simp only [bl, List.getElem_set, List.getElem_map, List.getElem_range, Nat.testBit_or, two_bit]
    by_cases a : y = i
    · subst a; simp
    · by_cases b : x = i
      · subst b; simp [a]
      · rw [if_neg a, if_neg b, decide_eq_false (fun e => b e.symm), decide_eq_false (fun e => a e.symm)]; simp
theorem closed_f {st i : Nat} (hs : st < 2 ^ 62) (hi : i ≤ 64) : dropperref05_closed.f (st : Int) (i : Int) = some (st.testBit i) := by
  unfold dropperref05_closed.f
  rw [bit_i hs hi, if_pos (by omega)]
  cases st.testBit i <;> rfl
theorem from_l1 (n : Nat) (hn : n ≤ 8) (sw : List S69) (fe : List S71) (hsw : SwOk n sw) (hlen : sw.length ≤ 20) (st a : Nat) (hst : st < 2 ^ 20) (m0 : Nat)
    (IH : ∀ m, m0 < m → Sound sw st a m → ∃ r, Ev (fun k => dropperref05_from.l0 k (st : Int) (bl n m) true (n : Int) sw fe) (bl n r) ∧ Group sw st a r) :
    ∀ (d i m : Nat) (b : Bool), i + d = sw.length → Sound sw st a m → (b = false → m = m0 ∧ Even sw st m0 i) → (b = true → m0 < m) →
    ∃ r, Ev (fun k => dropperref05_from.l1 k (st : Int) (bl n m) b (i : Int) (n : Int) sw fe) (bl n r) ∧ Group sw st a r := by
  intro d
  induction d with
  | zero =>
    intro i m b hi hs hf ht
    obtain rfl : i = sw.length := by omega
    cases b with
    | true =>
      obtain ⟨r, h1, h2⟩ := IH m (ht rfl) hs
      refine ⟨r, ?_, h2⟩
      refine Ev.step (fun k => by rw [dropperref05_from.l1]) ?_
      exact ev_neg (by omega) h1
    | false =>
      obtain ⟨rfl, he⟩ := hf rfl
      refine ⟨m, ?_, hs, he⟩
      refine Ev.step (fun k => by rw [dropperref05_from.l1]) (ev_neg (by omega) ?_)
      refine Ev.step (fun k => by rw [dropperref05_from.l0]) ?_
      exact ev_neg (by simp) (Ev.now _)
  | succ d ih =>
    intro i m b hi hs hf ht
    have hlt : i < sw.length := by omega
    have hm := hs.1
    obtain ⟨x0, x1, y0, y1, hxy⟩ := hsw sw[i] (List.getElem_mem hlt)
    obtain ⟨x, hx⟩ := Int.eq_ofNat_of_zero_le x0
    obtain ⟨y, hy⟩ := Int.eq_ofNat_of_zero_le y0
    have hxn : x < n := by omega
    have hyn : y < n := by omega
    have hL := bl_len n m
    have keep : ∀ (hE : st.testBit i = true → m.testBit x = m.testBit y), b = false → m = m0 ∧ Even sw st m0 (i + 1) := by
      intro hE hb
      obtain ⟨rfl, he⟩ := hf hb
      refine ⟨rfl, fun j hj hji hjb => ?_⟩
      by_cases h : j < i
      · exact he j hj h hjb
      · obtain rfl : j = i := by omega
        rw [hx, hy, Int.toNat_natCast, Int.toNat_natCast]
        exact hE hjb
    have rx := rd_bl (m := m) hxn
    have ry := rd_bl (m := m) hyn
    by_cases hbit : st.testBit i = true
    · by_cases hxy2 : m.testBit x = m.testBit y
      · obtain ⟨r, h1, h2⟩ := ih (i + 1) m b (by omega) hs (keep fun _ => hxy2) ht
        refine ⟨r, ?_, h2⟩
        refine Ev.step (fun k => by rw [dropperref05_from.l1]) ?_
        rw [rd_S69 sw i hlt, hx, hy, closed_f (by omega) (by omega), hbit, rx, ry, wrap_succ i (by omega), hL]
        exact ev_pos (by omega) (ev_pos (by omega) (ev_some (ev_pos rfl (ev_pos (by omega) (ev_pos (by omega) (ev_pos (by omega) (ev_pos (by omega) (ev_neg (by simp [hxy2]) h1))))))))
      · have hor : m.testBit x = true ∨ m.testBit y = true := by
          cases hq1 : m.testBit x <;> cases hq2 : m.testBit y <;> simp [hq1, hq2] at hxy2 ⊢
        have ha : m &&& two x y ≠ two x y := fun e => by
          have := and_two_all.1 e
          exact hxy2 (this.1.trans this.2.symm)
        have hgt := or_gt ha
        have hm0 : m0 < m ||| two x y := by
          cases b with
          | true => have := ht rfl; omega
          | false => have := (hf rfl).1; omega
        obtain ⟨r, h1, h2⟩ := ih (i + 1) (m ||| two x y) true (by omega) (or_two_sound hs hlt hbit hx hy (by omega) (by omega) hor) (fun h => by cases h) (fun _ => hm0)
        refine ⟨r, ?_, h2⟩
        refine Ev.step (fun k => by rw [dropperref05_from.l1]) ?_
        rw [rd_S69 sw i hlt, hx, hy, closed_f (by omega) (by omega), hbit, rx, ry, wrap_succ i (by omega), hL, Int.toNat_natCast, Int.toNat_natCast, bl_set2 hxn hyn]
        exact ev_pos (by omega) (ev_pos (by omega) (ev_some (ev_pos rfl (ev_pos (by omega) (ev_pos (by omega) (ev_pos (by omega) (ev_pos (by omega) (ev_pos (by simpa using hxy2) h1))))))))
    · obtain ⟨r, h1, h2⟩ := ih (i + 1) m b (by omega) hs (keep fun h => absurd h hbit) ht
      refine ⟨r, ?_, h2⟩
      refine Ev.step (fun k => by rw [dropperref05_from.l1]) ?_
      rw [closed_f (by omega) (by omega), wrap_succ i (by omega)]
      exact ev_pos (by omega) (ev_pos (by omega) (ev_some (ev_neg hbit h1)))
theorem from_l0 (n : Nat) (hn : n ≤ 8) (sw : List S69) (fe : List S71) (hsw : SwOk n sw) (hlen : sw.length ≤ 20) (st a : Nat) (hst : st < 2 ^ 20) :
    ∀ (q m : Nat), 256 - m ≤ q → Sound sw st a m → ∃ r, Ev (fun k => dropperref05_from.l0 k (st : Int) (bl n m) true (n : Int) sw fe) (bl n r) ∧ Group sw st a r := by
  intro q
  induction q with
  | zero => intro m hq hs; have := hs.1; omega
  | succ q ih =>
    intro m hq hs
    have hm := hs.1
    obtain ⟨r, h1, h2⟩ := from_l1 n hn sw fe hsw hlen st a hst m (fun m' hm' hs' => ih m' (by omega) hs') sw.length 0 m false (by omega) hs (fun _ => ⟨rfl, fun j hj hji => by omega⟩) (fun h => by cases h)
    refine ⟨r, ?_, h2⟩
    refine Ev.step (fun k => by rw [dropperref05_from.l0]) ?_
    exact ev_pos rfl h1
theorem from_ev (n : Nat) (hn : n ≤ 8) (sw : List S69) (fe : List S71) (hsw : SwOk n sw) (hlen : sw.length ≤ 20) (st a : Nat) (hst : st < 2 ^ 20) (ha : a < n) :
    ∃ r : Nat, Ev (fun k => dropperref05_from.f k (n : Int) sw fe (st : Int) (a : Int)) (bl n r) ∧ r < 256 ∧ ∀ j, r.testBit j = true ↔ Conn sw st a j := by
  have hs : Sound sw st a (1 <<< a) := by
    refine ⟨by rw [Nat.one_shiftLeft]; exact Nat.lt_of_lt_of_le (Nat.pow_lt_pow_right (by decide) (show a < 8 by omega)) (by decide), by rw [Nat.one_shiftLeft, Nat.testBit_two_pow]; simp, fun j hj => ?_⟩
    rw [Nat.one_shiftLeft, Nat.testBit_two_pow] at hj
    obtain rfl : a = j := by simpa using hj
    exact Conn.refl
  obtain ⟨r, h1, h2⟩ := from_l0 n hn sw fe hsw hlen st a hst 256 (1 <<< a) (Nat.sub_le _ _) hs
  refine ⟨r, ?_, h2.1.1, fun j => ⟨h2.1.2.2 j, fun h => conn_of_even h2.1 h2.2 h⟩⟩
  unfold dropperref05_from.f
  have e : (List.replicate n false).set a true = bl n (1 <<< a) := by
    apply List.ext_getElem
    · simp [bl]
    · intro i h1 h2
      simp only [bl, List.getElem_set, List.getElem_map, List.getElem_range, List.getElem_replicate, Nat.one_shiftLeft, Nat.testBit_two_pow]
      by_cases h : a = i <;> simp [h]
  have hL : (List.replicate n false).length = n := List.length_replicate
  rw [Int.toNat_natCast, Int.toNat_natCast]
  refine ev_pos (by omega) (ev_pos (by omega) (ev_some ?_))
  refine ev_pos (by omega) (ev_pos (by rw [hL]; omega) ?_)
  rw [e]
  exact h1

theorem mask_new {sw : List S69} {st : Nat} {i : Nat} : Mask sw st [] i 0 := ⟨by decide, fun p => by simp⟩
theorem lv_or : ∀ m : Nat, m < 16 → ∀ q : Nat, q < 4 → m.testBit 0 = false → 1 ≤ q → lv (m ||| 1 <<< q) = if lv m = 0 then (q : Int) else if lv m = q then lv m else -1 := by decide +kernel
theorem FeOk.take {n : Nat} {fe : List S71} (h : FeOk n fe) (q : Nat) : FeOk n (fe.take q) := fun f hf => h f (List.mem_of_mem_take hf)
def MarkAt (sw : List S69) (st : Nat) (fs : List S71) (i : Nat) (v : Int) : Prop := ∃ m, v = lv m ∧ Mask sw st fs i m
theorem rlive_l1 (n : Nat) (hn : n ≤ 8) (sw : List S69) (fe : List S71) (hfe : FeOk n fe) (hfl : fe.length ≤ 20) (st : Nat) (q : Nat) (hq : q < fe.length) (g : Nat) (hg : g < 256) (hgc : ∀ j, g.testBit j = true ↔ Conn sw st fe[q].f0.toNat j)
    (hend : ∀ l', Mark sw st n (fe.take (q + 1)) l' → ∃ r, Ev (fun k => dropperref05_live.l0 k (st : Int) l' ((q + 1 : Nat) : Int) (n : Int) sw fe) r ∧ Mark sw st n fe r) :
    ∀ (d i : Nat) (l : List Int), i + d = n → l.length = n → (∀ j, j < n → MarkAt sw st (if j < i then fe.take (q + 1) else fe.take q) j (rd l (j : Int))) →
    ∃ r, Ev (fun k => dropperref05_live.l1 k (st : Int) l (q : Int) (bl n g) (i : Int) (n : Int) sw fe) r ∧ Mark sw st n fe r := by
  have htk : fe.take (q + 1) = fe.take q ++ [fe[q]] := List.take_succ_eq_append_getElem hq
  obtain ⟨f0, f1, f2, f3⟩ := hfe fe[q] (List.getElem_mem hq)
  obtain ⟨p, hp⟩ := Int.eq_ofNat_of_zero_le (show 0 ≤ fe[q].f1 by omega)
  have hL := bl_len n g
  intro d
  induction d with
  | zero =>
    intro i l hi hl hm
    obtain rfl : i = n := by omega
    obtain ⟨r, h1, h2⟩ := hend l ⟨hl, fun j hj => by
      have h := hm j hj
      rw [if_pos hj] at h
      exact h⟩
    refine ⟨r, ?_, h2⟩
    refine Ev.step (fun k => by rw [dropperref05_live.l1]) ?_
    rw [wrap_succ q (by omega)]
    exact ev_neg (by omega) h1
  | succ d ih =>
    intro i l hi hl hm
    obtain ⟨m, e, h⟩ := hm i (by omega)
    rw [if_neg (by omega)] at h
    have hm16 := h.1
    have hm0 := mask_zero (n := n) (hfe.take q) h
    have rg := rd_bl (m := g) (show i < n by omega)
    have next : ∀ l' : List Int, l'.length = n → (∀ j, j < n → j ≠ i → rd l' (j : Int) = rd l (j : Int)) → MarkAt sw st (fe.take (q + 1)) i (rd l' (i : Int)) →
        ∃ r, Ev (fun k => dropperref05_live.l1 k (st : Int) l' (q : Int) (bl n g) ((i + 1 : Nat) : Int) (n : Int) sw fe) r ∧ Mark sw st n fe r := by
      intro l' hl' hne hat
      refine ih (i + 1) l' (by omega) hl' (fun j hj => ?_)
      by_cases hji : j = i
      · subst hji; rw [if_pos (by omega)]; exact hat
      · rw [hne j hj hji]
        have h' := hm j hj
        by_cases hlt : j < i
        · rw [if_pos hlt] at h'; rw [if_pos (by omega)]; exact h'
        · rw [if_neg hlt] at h'; rw [if_neg (by omega)]; exact h'
    by_cases hc : g.testBit i = true
    · have hcc := (hgc i).1 hc
      have hmy := mask_yes h hcc hp (by omega)
      rw [← htk] at hmy
      have hlo := lv_or m hm16 p (by omega) hm0 (by omega)
      by_cases h0 : rd l (i : Int) = 0
      · obtain ⟨r, h1, h2⟩ := next (l.set i (p : Int)) (by rw [List.length_set]; exact hl) (fun j hj hji => by rw [rd_set _ _ _ _ (by omega), if_neg hji]) ⟨m ||| 1 <<< p, by rw [rd_set _ _ _ _ (by omega), if_pos rfl, hlo, if_pos (by rw [← e]; exact h0)], hmy⟩
        refine ⟨r, ?_, h2⟩
        refine Ev.step (fun k => by rw [dropperref05_live.l1]) ?_
        rw [rd_S71 fe q hq, hp, rg, hc, wrap_succ i (by omega), hL, hl, Int.toNat_natCast]
        exact ev_pos (by omega) (ev_pos (by omega) (ev_pos (by omega) (ev_pos (by omega) (ev_pos (by omega) (ev_pos rfl (ev_pos (by omega) (ev_pos h0 h1)))))))
      · by_cases h1p : rd l (i : Int) = (p : Int)
        · obtain ⟨r, h1, h2⟩ := next l hl (fun j hj hji => rfl) ⟨m ||| 1 <<< p, by rw [hlo, ← e, if_neg h0, if_pos h1p], hmy⟩
          refine ⟨r, ?_, h2⟩
          refine Ev.step (fun k => by rw [dropperref05_live.l1]) ?_
          rw [rd_S71 fe q hq, hp, rg, hc, wrap_succ i (by omega), hL, hl]
          exact ev_pos (by omega) (ev_pos (by omega) (ev_pos (by omega) (ev_pos (by omega) (ev_pos (by omega) (ev_pos rfl (ev_pos (by omega) (ev_neg h0 (ev_pos h1p h1))))))))
        · obtain ⟨r, h1, h2⟩ := next (l.set i (-1)) (by rw [List.length_set]; exact hl) (fun j hj hji => by rw [rd_set _ _ _ _ (by omega), if_neg hji]) ⟨m ||| 1 <<< p, by rw [rd_set _ _ _ _ (by omega), if_pos rfl, hlo, ← e, if_neg h0, if_neg h1p], hmy⟩
          refine ⟨r, ?_, h2⟩
          refine Ev.step (fun k => by rw [dropperref05_live.l1]) ?_
          rw [rd_S71 fe q hq, hp, rg, hc, wrap_succ i (by omega), hL, hl, Int.toNat_natCast]
          exact ev_pos (by omega) (ev_pos (by omega) (ev_pos (by omega) (ev_pos (by omega) (ev_pos (by omega) (ev_pos rfl (ev_pos (by omega) (ev_neg h0 (ev_neg h1p h1))))))))
    · have hmn := mask_no h (fun hx => hc ((hgc i).2 hx))
      rw [← htk] at hmn
      obtain ⟨r, h1, h2⟩ := next l hl (fun j hj hji => rfl) ⟨m, e, hmn⟩
      refine ⟨r, ?_, h2⟩
      refine Ev.step (fun k => by rw [dropperref05_live.l1]) ?_
      rw [rg, wrap_succ i (by omega), hL, hl]
      exact ev_pos (by omega) (ev_pos (by omega) (ev_pos (by omega) (ev_pos (by omega) (ev_pos (by omega) (ev_neg hc h1)))))
theorem rlive_l0 (n : Nat) (hn : n ≤ 8) (sw : List S69) (hsw : SwOk n sw) (hlen : sw.length ≤ 20) (fe : List S71) (hfe : FeOk n fe) (hfl : fe.length ≤ 20) (st : Nat) (hst : st < 2 ^ 20) :
    ∀ (d q : Nat) (l : List Int), q + d = fe.length → Mark sw st n (fe.take q) l → ∃ r, Ev (fun k => dropperref05_live.l0 k (st : Int) l (q : Int) (n : Int) sw fe) r ∧ Mark sw st n fe r := by
  intro d
  induction d with
  | zero =>
    intro q l hq hl
    obtain rfl : q = fe.length := by omega
    rw [List.take_length] at hl
    refine ⟨l, ?_, hl⟩
    refine Ev.step (fun k => by rw [dropperref05_live.l0]) ?_
    exact ev_neg (by omega) (Ev.now _)
  | succ d ih =>
    intro q l hq hl
    have hlt : q < fe.length := by omega
    obtain ⟨f0, f1, f2, f3⟩ := hfe fe[q] (List.getElem_mem hlt)
    obtain ⟨g, hg1, hg2, hg3⟩ := from_ev n hn sw fe hsw hlen st fe[q].f0.toNat hst (by omega)
    rw [Int.toNat_of_nonneg f0] at hg1
    obtain ⟨r, h1, h2⟩ := rlive_l1 n hn sw fe hfe hfl st q hlt g hg2 hg3 (fun l' hl' => ih (q + 1) l' (by omega) hl') n 0 l (by omega) hl.1 (fun j hj => by rw [if_neg (by omega)]; exact hl.2 j hj)
    refine ⟨r, ?_, h2⟩
    refine Ev.step (fun k => by rw [dropperref05_live.l0]) ?_
    rw [rd_S71 fe q hlt]
    exact ev_pos (by omega) (ev_pos (by omega) (Ev.bind hg1 h1))
theorem rlive_ev (n : Nat) (hn : n ≤ 8) (sw : List S69) (hsw : SwOk n sw) (hlen : sw.length ≤ 20) (fe : List S71) (hfe : FeOk n fe) (hfl : fe.length ≤ 20) (st : Nat) (hst : st < 2 ^ 20) :
    ∃ r, Ev (fun k => dropperref05_live.f k (n : Int) sw fe (st : Int)) r ∧ Mark sw st n fe r := by
  obtain ⟨r, h1, h2⟩ := rlive_l0 n hn sw hsw hlen fe hfe hfl st hst fe.length 0 (List.replicate n 0) (by omega) ⟨List.length_replicate, fun i hi => ⟨0, by simp [rd, hi, lv, cn], mask_new⟩⟩
  refine ⟨r, ?_, h2⟩
  unfold dropperref05_live.f
  rw [Int.toNat_natCast]
  exact ev_pos (by omega) (ev_pos (by omega) h1)
theorem mark_unique {sw : List S69} {st n : Nat} {fe : List S71} {l l' : List Int} (h : Mark sw st n fe l) (h' : Mark sw st n fe l') : l = l' := by
  apply List.ext_getElem (h.1.trans h'.1.symm)
  intro i h1 h2
  obtain ⟨m, e, k⟩ := h.2 i (by have := h.1; omega)
  obtain ⟨m', e', k'⟩ := h'.2 i (by have := h.1; omega)
  obtain rfl := mask_unique k k'
  have e1 : rd l (i : Int) = l[i] := by simp [rd, List.getD_eq_getElem?_getD, h1]
  have e2 : rd l' (i : Int) = l'[i] := by simp [rd, List.getD_eq_getElem?_getD, h2]
  rw [← e1, ← e2, e, e']
theorem GridOk.swn {n : Nat} {sw : List S69} {fe : List S71} (h : GridOk (n : Int) sw fe) : SwOk n sw := fun s hs => by
  have := h.2.2.2.2.1 s hs
  unfold SwIs at *
  omega
theorem pow_le10 {n : Nat} {sw : List S69} {fe : List S71} (h : GridOk (n : Int) sw fe) : 2 ^ sw.length ≤ 2 ^ 10 := Nat.pow_le_pow_right (by decide) h.2.2.1
/-- the marks of the sections in a state -/
noncomputable def marks (sw : List S69) (st n : Nat) (fe : List S71) : List Int := open Classical in if h : ∃ l, Mark sw st n fe l then Classical.choose h else []
theorem marks_of {sw : List S69} {st n : Nat} {fe : List S71} {l : List Int} (h : Mark sw st n fe l) : marks sw st n fe = l := by
  have hx : ∃ l, Mark sw st n fe l := ⟨l, h⟩
  unfold marks
  rw [dif_pos hx]
  exact mark_unique (Classical.choose_spec hx) h
section
variable {n : Nat} {sw : List S69} {fe : List S71} (h : GridOk (n : Int) sw fe) {st : Nat} (hst : st < 2 ^ sw.length)
include h hst
theorem marks_mark : Mark sw st n fe (marks sw st n fe) := by
  have hp := pow_le10 h
  obtain ⟨r, h1, h2⟩ := rlive_ev n (by have := h.2.1; omega) sw h.swn (by have := h.2.2.1; omega) fe h.fe (by have := h.2.2.2.1; omega) st (by omega)
  rw [marks_of h2]; exact h2
theorem rlive_val : Ev (fun k => dropperref05_live.f k (n : Int) sw fe (st : Int)) (marks sw st n fe) := by
  have hp := pow_le10 h
  obtain ⟨r, h1, h2⟩ := rlive_ev n (by have := h.2.1; omega) sw h.swn (by have := h.2.2.1; omega) fe h.fe (by have := h.2.2.2.1; omega) st (by omega)
  rw [marks_of h2]; exact h1
theorem live_val : Ev (fun k => feed_grid_live.f k (n : Int) sw fe (st : Int)) (marks sw st n fe) := by
  have hp := pow_le10 h
  obtain ⟨r, h1, h2⟩ := live_ev n (by have := h.2.1; omega) sw h.sw8 (by have := h.2.2.1; omega) fe h.fe (by have := h.2.2.2.1; omega) st (by omega)
  rw [marks_of h2]; exact h1
theorem marks_len : (marks sw st n fe).length = n := (marks_mark h hst).1
theorem marks_ge : ∀ v ∈ marks sw st n fe, -1 ≤ v ∧ v ≤ 3 := by
  intro v hv
  obtain ⟨i, hi, rfl⟩ := List.mem_iff_getElem.1 hv
  obtain ⟨m, e, k⟩ := (marks_mark h hst).2 i (by have := marks_len h hst; omega)
  have e1 : rd (marks sw st n fe) (i : Int) = (marks sw st n fe)[i] := by simp [rd, List.getD_eq_getElem?_getD, hi]
  rw [← e1, e]
  have : ∀ m : Nat, m < 16 → -1 ≤ lv m ∧ lv m ≤ 3 := by decide +kernel
  exact this m k.1
open Classical in
theorem right_val : Ev (fun k => feed_grid_right.f k (n : Int) sw fe (st : Int)) (!decide ((-1 : Int) ∈ marks sw st n fe)) := by
  unfold feed_grid_right.f
  have hl := marks_len h hst
  have hn := h.2.1
  refine Ev.bind (live_val h hst) ?_
  refine Ev.bind (contains_ev _ (by omega) (-1)) ?_
  exact ev_const (by first | rfl | (congr 1; rw [Bool.eq_iff_iff]; simp))
end
end Go.Proofs.YtoilhnmdemnknaaDoor.Plain

/- The exported functions of the program and of the document's answer, by the marks of the sections. -/
namespace Go.Proofs.YtoilhnmdemnknaaDoor.Plain
set_option linter.unusedVariables false
set_option linter.unusedSimpArgs false
open Go.RowKit Go.Proofs.YtoilhnmdemnknaaDoor.XFeed Go.Proofs.YtoilhnmdemnknaaDoorW.PrintWords Go.Proofs.YtoilhnmdemnknaaDoorW.PrintLast Go.Proofs.YtoilhnmdemnknaaDoorW.PrintMore
open Classical

theorem shl_one (n : Nat) (h : n ≤ 20) : shl .i64 1 (n : Int) = ((2 ^ n : Nat) : Int) := by
  have : 2 ^ n ≤ 2 ^ 20 := Nat.pow_le_pow_right (by decide) h
  rw [show (1 : Int) = ((1 : Nat) : Int) from rfl, shl_i (by omega) (by omega), Nat.one_shiftLeft]
theorem large_f (N : Int) (sw : List S69) (fe : List S71) (l : List Int) :
    dropperlaw05_Large.f N sw fe l = some (decide (20 < sw.length ∨ 20 < fe.length ∨ 1100 < l.length)) := by
  unfold dropperlaw05_Large.f
  by_cases h1 : (sw.length : Int) > 20
  · rw [if_pos h1, decide_eq_true (by omega)]
  rw [if_neg h1]
  by_cases h2 : (fe.length : Int) > 20
  · rw [if_pos h2, decide_eq_true (by omega)]
  rw [if_neg h2]
  congr 1
  rw [decide_eq_decide]
  omega
/-- the error of a grid and a state -/
noncomputable def errG (N : Int) (sw : List S69) (fe : List S71) (st : Int) : Int := if GridOk N sw fe then (if 0 ≤ st ∧ st < ((2 ^ sw.length : Nat) : Int) then 0 else 51) else 50
theorem errG_zero {N : Int} {sw : List S69} {fe : List S71} {st : Int} : errG N sw fe st = 0 ↔ GridOk N sw fe ∧ 0 ≤ st ∧ st < ((2 ^ sw.length : Nat) : Int) := by
  unfold errG
  by_cases h : GridOk N sw fe
  · rw [if_pos h]
    by_cases h2 : 0 ≤ st ∧ st < ((2 ^ sw.length : Nat) : Int)
    · rw [if_pos h2]; exact iff_of_true rfl ⟨h, h2⟩
    · rw [if_neg h2]; exact iff_of_false (by decide) (fun e => h2 e.2)
  · rw [if_neg h]; exact iff_of_false (by decide) (fun e => h e.1)
/-- a grid and a state as described, as natural numbers -/
theorem errG_nat {N : Int} {sw : List S69} {fe : List S71} {st : Int} (h : errG N sw fe st = 0) :
    ∃ n s : Nat, N = (n : Int) ∧ st = (s : Int) ∧ GridOk (n : Int) sw fe ∧ s < 2 ^ sw.length := by
  obtain ⟨h1, h2, h3⟩ := errG_zero.1 h
  obtain ⟨n, rfl⟩ := Int.eq_ofNat_of_zero_le (show 0 ≤ N by have := h1.1; omega)
  obtain ⟨s, rfl⟩ := Int.eq_ofNat_of_zero_le h2
  exact ⟨n, s, rfl, rfl, h1, by omega⟩
theorem open_g (N : Int) (sw : List S69) (fe : List S71) (st : Int) : feed_open.f N sw fe st = some (N, errG N sw fe st) := open_f N sw fe st
theorem rasked_ev (N : Int) (sw : List S69) (fe : List S71) (hl : sw.length ≤ 20) (st : Int) : Ev (fun k => dropperref05_asked.f k N sw fe st) (errG N sw fe st) := by
  unfold dropperref05_asked.f
  refine Ev.bind (rvalid_ev N sw fe) ?_
  by_cases h : GridOk N sw fe
  · refine ev_pos (decide_eq_true h) ?_
    unfold dropperref05_IsState.f errG
    rw [shl_one _ hl, if_pos h]
    by_cases h0 : st ≥ 0
    · rw [if_pos h0]
      by_cases h1 : st < ((2 ^ sw.length : Nat) : Int)
      · rw [if_pos ⟨h0, h1⟩]
        exact ev_some (ev_pos (decide_eq_true h1) (Ev.now _))
      · rw [if_neg (fun e => h1 e.2)]
        exact ev_some (ev_neg (by simpa using h1) (Ev.now _))
    · rw [if_neg h0, if_neg (fun e => h0 e.1)]
      exact ev_some (ev_neg (by simp) (Ev.now _))
  · refine ev_neg (by simpa using h) ?_
    unfold errG
    rw [if_neg h]
    exact Ev.now _
/-- is a state right -/
noncomputable def rightB (sw : List S69) (st n : Nat) (fe : List S71) : Bool := !decide ((-1 : Int) ∈ marks sw st n fe)
theorem rd_get {l : List Int} {i : Nat} (h : i < l.length) : rd l (i : Int) = l[i] := by simp [rd, List.getD_eq_getElem?_getD, h]
theorem rright_l0 (n : Nat) (sw : List S69) (fe : List S71) (l : List Int) (hl : l.length = n) (hn : n ≤ 8) (hb : ∀ v ∈ l, -1 ≤ v) : ∀ (d i : Nat), i + d = n → (∀ j (h : j < l.length), j < i → l[j] ≠ -1) →
    Ev (fun k => dropperref05_right.l0 k l (i : Int) (n : Int) sw fe) (!decide ((-1 : Int) ∈ l)) := by
  intro d
  induction d with
  | zero =>
    intro i hi h
    refine Ev.step (fun k => by rw [dropperref05_right.l0]) ?_
    refine ev_neg (by omega) (ev_const (congrArg some ?_))
    rw [decide_eq_false]; rfl
    intro hm
    obtain ⟨j, hj, e⟩ := List.mem_iff_getElem.1 hm
    exact h j hj (by omega) e
  | succ d ih =>
    intro i hi h
    have hlt : i < l.length := by omega
    refine Ev.step (fun k => by rw [dropperref05_right.l0]) ?_
    rw [rd_get hlt, wrap_succ i (by omega), hl]
    refine ev_pos (by omega) (ev_pos (by omega) (ev_pos (by omega) ?_))
    have hv := hb _ (List.getElem_mem hlt)
    by_cases h0 : l[i] < 0
    · refine ev_pos h0 (ev_const (congrArg some ?_))
      have e : l[i] = -1 := by omega
      rw [decide_eq_true]; rfl
      rw [← e]; exact List.getElem_mem hlt
    · refine ev_neg h0 (ih (i + 1) (by omega) (fun j hj hji => ?_))
      by_cases hji' : j < i
      · exact h j hj hji'
      · obtain rfl : j = i := by omega
        omega
section
variable {n : Nat} {sw : List S69} {fe : List S71} (h : GridOk (n : Int) sw fe) {st : Nat} (hst : st < 2 ^ sw.length)
include h hst
theorem rightB_val : Ev (fun k => feed_grid_right.f k (n : Int) sw fe (st : Int)) (rightB sw st n fe) := right_val h hst
theorem rrightB_val : Ev (fun k => dropperref05_right.f k (n : Int) sw fe (st : Int)) (rightB sw st n fe) := by
  unfold dropperref05_right.f
  have hn := h.2.1
  exact Ev.bind (rlive_val h hst) (rright_l0 n sw fe _ (marks_len h hst) (by omega) (fun v hv => (marks_ge h hst v hv).1) n 0 (by omega) (fun j hj hj0 => by omega))
end
end Go.Proofs.YtoilhnmdemnknaaDoor.Plain

/- Isolations: which lists are some, and the fewest. -/
namespace Go.Proofs.YtoilhnmdemnknaaDoor.Plain
set_option linter.unusedVariables false
set_option linter.unusedSimpArgs false
open Go.RowKit Go.Proofs.YtoilhnmdemnknaaDoor.XFeed Go.Proofs.YtoilhnmdemnknaaDoorW.PrintWords Go.Proofs.YtoilhnmdemnknaaDoorW.PrintLast Go.Proofs.YtoilhnmdemnknaaDoorW.PrintMore
open Classical

/-! what is left of a number without the bits of another one -/
/-! a section is dead -/
theorem lv_zero : ∀ m : Nat, m < 16 → m.testBit 0 = false → (lv m = 0 ↔ m = 0) := by decide +kernel
section
variable {n : Nat} {sw : List S69} {fe : List S71} (h : GridOk (n : Int) sw fe) {st : Nat} (hst : st < 2 ^ sw.length)
include h hst
end

/-! the lists -/
/-- what stands in front of an index -/
def before (l : List Int) (i : Nat) : Int := if i = 0 then -1 else rd l ((i - 1 : Nat) : Int)
section
variable {n : Nat} {sw : List S69} {fe : List S71} (h : GridOk (n : Int) sw fe) {st : Nat} (hst : st < 2 ^ sw.length) {sec : Nat} (hsec : sec < n) (l : List Int) (hl : l.length ≤ 4000000000000000000)
include h hst hsec hl
end
/-! the error of a grid, a state and a section -/
theorem bad_iff {N : Int} (h1 : 1 ≤ N) (h2 : N ≤ 8) (x : Int) : feed_grid_section.bad N x = !decide (0 ≤ x ∧ x < N) := by
  unfold feed_grid_section.bad
  rw [wrap_id (by omega) (by omega), Bool.eq_iff_iff]
  simp; omega
end Go.Proofs.YtoilhnmdemnknaaDoor.Plain

/- Rules, orders and where they lead. -/
namespace Go.Proofs.YtoilhnmdemnknaaDoor.Plain
set_option linter.unusedVariables false
set_option linter.unusedSimpArgs false
open Go.RowKit Go.Proofs.YtoilhnmdemnknaaDoor.XFeed Go.Proofs.YtoilhnmdemnknaaDoorW.PrintWords Go.Proofs.YtoilhnmdemnknaaDoorW.PrintLast Go.Proofs.YtoilhnmdemnknaaDoorW.PrintMore
open Classical

theorem pred_nat {i : Nat} (h : (i : Int) > 0) (hi : i ≤ 4000000000000000000) : wrap64 ((i : Int) - 1) = ((i - 1 : Nat) : Int) := by rw [wrap_id (by omega) (by omega)]; omega
theorem cons_of {l : List Int} {i : Nat} (h : i < l.length) : l.drop i = l[i] :: l.drop (i + 1) := List.drop_eq_getElem_cons h
/-- sections to keep -/
def KeepOk (n : Int) (keep : List Int) : Prop := (∀ v ∈ keep, 0 ≤ v ∧ v < n) ∧ keep.Pairwise (· < ·)
theorem pair_of_adj : ∀ (l : List Int), (∀ j (h : j + 1 < l.length), l[j] < l[j + 1]) → l.Pairwise (· < ·)
  | [], _ => List.Pairwise.nil
  | [_], _ => by simp
  | a :: b :: t, h => by
    have ih := pair_of_adj (b :: t) (fun j hj => by have := h (j + 1) (by simp at hj ⊢; omega); simpa using this)
    have hab : a < b := by have := h 0 (by simp); simpa using this
    refine List.pairwise_cons.2 ⟨fun x hx => ?_, ih⟩
    rcases List.mem_cons.1 hx with rfl | hx
    · exact hab
    · exact Int.lt_trans hab ((List.pairwise_cons.1 ih).1 x hx)
theorem adj_of_pair {l : List Int} (h : l.Pairwise (· < ·)) {j k : Nat} (hjk : j < k) (hk : k < l.length) : l[j] < l[k] := List.pairwise_iff_getElem.1 h j k (by omega) hk hjk
theorem kept_l0 (n : Nat) (hn : 1 ≤ n ∧ n ≤ 8) (sw : List S69) (fe : List S71) (l : List Int) (hl : l.length ≤ 4000000000000000000) : ∀ (d i : Nat), i + d = l.length → (∀ j (h : j + 1 < l.length), j + 1 < i → l[j] < l[j + 1]) →
    Ev (fun k => feed_rule_kept.l0 k l (l.length : Int) (i : Int) (n : Int) sw fe l) (if KeepOk (n : Int) l then 0 else 2) := by
  intro d
  induction d with
  | zero =>
    intro i hi hb
    obtain rfl : i = l.length := by omega
    refine Ev.step (fun k => by rw [feed_rule_kept.l0]) ?_
    refine ev_neg (by omega) (ev_const ?_)
    unfold feed_grid_section.f
    simp only [Option.bind_some]
    congr 1
    have hp := pair_of_adj l (fun j hj => hb j hj hj)
    by_cases hk : KeepOk (n : Int) l
    · rw [if_pos hk, if_neg]
      intro ha
      obtain ⟨v, hv, hbv⟩ := List.any_eq_true.1 ha
      rw [bad_iff (by omega) (by omega), decide_eq_true (hk.1 v hv)] at hbv
      cases hbv
    · rw [if_neg hk, if_pos]
      rw [List.any_eq_true]
      have : ¬ ∀ v ∈ l, 0 ≤ v ∧ v < (n : Int) := fun h => hk ⟨h, hp⟩
      simp only [not_forall] at this
      obtain ⟨v, hv, hnv⟩ := this
      exact ⟨v, hv, by rw [bad_iff (by omega) (by omega), decide_eq_false hnv]; rfl⟩
  | succ d ih =>
    intro i hi hb
    have hil : i < l.length := by omega
    refine Ev.step (fun k => by rw [feed_rule_kept.l0]) ?_
    rw [rd_get hil, wrap_succ i (by omega)]
    refine ev_pos (by omega) (ev_pos (by omega) (ev_pos (by omega) ?_))
    by_cases h0 : (i : Int) > 0
    · refine ev_pos h0 ?_
      rw [pred_nat h0 (by omega), rd_get (show i - 1 < l.length by omega)]
      refine ev_pos (by omega) (ev_pos (by omega) ?_)
      by_cases hle : l[i] ≤ l[i - 1]
      · refine ev_pos hle (ev_const (congrArg some ?_))
        rw [if_neg]
        intro hk
        have := adj_of_pair hk.2 (show i - 1 < i by omega) hil
        omega
      · refine ev_neg hle (ih (i + 1) (by omega) (fun j hj hji => ?_))
        by_cases e : j + 1 < i
        · exact hb j hj e
        · have e2 : j = i - 1 := by omega
          have e3 : l[j] = l[i - 1] := by simp only [e2]
          have e4 : l[j + 1] = l[i] := by congr 1; omega
          omega
    · exact ev_neg h0 (ih (i + 1) (by omega) (fun j hj hji => by omega))
theorem kept_val (n : Nat) (hn : 1 ≤ n ∧ n ≤ 8) (sw : List S69) (fe : List S71) (l : List Int) (hl : l.length ≤ 4000000000000000000) : Ev (fun k => feed_rule_kept.f k (n : Int) sw fe l) (if KeepOk (n : Int) l then 0 else 2) := by
  unfold feed_rule_kept.f
  exact kept_l0 n hn sw fe l hl l.length 0 (by omega) (fun j hj h0 => by omega)
theorem isKeep_l0 (n : Nat) (sw : List S69) (fe : List S71) (l : List Int) (hl : l.length ≤ 4000000000000000000) : ∀ (d i : Nat), i + d = l.length → (∀ j (h : j < l.length), j < i → 0 ≤ l[j] ∧ l[j] < (n : Int)) → (∀ j (h : j + 1 < l.length), j + 1 < i → l[j] < l[j + 1]) →
    Ev (fun k => dropperref05_IsKeep.l0 k l (i : Int) (n : Int) sw fe) (decide (KeepOk (n : Int) l)) := by
  intro d
  induction d with
  | zero =>
    intro i hi ha hb
    refine Ev.step (fun k => by rw [dropperref05_IsKeep.l0]) ?_
    refine ev_neg (by omega) (ev_const (congrArg some ?_))
    symm
    refine decide_eq_true ⟨fun v hv => ?_, pair_of_adj l (fun j hj => hb j hj (by omega))⟩
    obtain ⟨j, hj, rfl⟩ := List.mem_iff_getElem.1 hv
    exact ha j hj (by omega)
  | succ d ih =>
    intro i hi ha hb
    have hil : i < l.length := by omega
    refine Ev.step (fun k => by rw [dropperref05_IsKeep.l0]) ?_
    rw [rd_get hil, wrap_succ i (by omega), section_f]
    refine ev_pos (by omega) (ev_pos (by omega) (ev_some ?_))
    by_cases hr : 0 ≤ l[i] ∧ l[i] < (n : Int)
    · refine ev_pos (decide_eq_true hr) ?_
      have ha' : ∀ j (h : j < l.length), j < i + 1 → 0 ≤ l[j] ∧ l[j] < (n : Int) := fun j hj hji => by
        by_cases e : j < i
        · exact ha j hj e
        · obtain rfl : j = i := by omega
          exact hr
      by_cases h0 : (i : Int) > 0
      · refine ev_pos h0 ?_
        rw [pred_nat h0 (by omega), rd_get (show i - 1 < l.length by omega)]
        refine ev_pos (by omega) (ev_pos (by omega) ?_)
        by_cases hle : l[i] ≤ l[i - 1]
        · refine ev_pos hle (ev_const (congrArg some ?_))
          symm
          refine decide_eq_false (fun hk => ?_)
          have := adj_of_pair hk.2 (show i - 1 < i by omega) hil
          omega
        · refine ev_neg hle (ih (i + 1) (by omega) ha' (fun j hj hji => ?_))
          by_cases e : j + 1 < i
          · exact hb j hj e
          · have e2 : j = i - 1 := by omega
            have e3 : l[j] = l[i - 1] := by simp only [e2]
            have e4 : l[j + 1] = l[i] := by congr 1; omega
            omega
      · exact ev_neg h0 (ih (i + 1) (by omega) ha' (fun j hj hji => by omega))
    · refine ev_neg (by simpa using hr) (ev_const (congrArg some ?_))
      symm
      exact decide_eq_false (fun hk => hr (hk.1 _ (List.getElem_mem hil)))
theorem isKeep_val (n : Nat) (sw : List S69) (fe : List S71) (l : List Int) (hl : l.length ≤ 4000000000000000000) : Ev (fun k => dropperref05_IsKeep.f k (n : Int) sw fe l) (decide (KeepOk (n : Int) l)) := by
  unfold dropperref05_IsKeep.f
  exact isKeep_l0 n sw fe l hl l.length 0 (by omega) (fun j hj h0 => by omega) (fun j hj h0 => by omega)

/-- a state keeps the rule -/
noncomputable def goodB (sw : List S69) (n : Nat) (fe : List S71) (keep : List Int) (st : Nat) : Bool := rightB sw st n fe && !(keep.any fun i => rd (marks sw st n fe) i == 0)
section
variable {n : Nat} {sw : List S69} {fe : List S71} (h : GridOk (n : Int) sw fe) {keep : List Int} (hk : KeepOk (n : Int) keep) (hkl : keep.length ≤ 4000000000000000000)
include h hk
theorem keeps_val {st : Nat} (hst : st < 2 ^ sw.length) : Ev (fun k => feed_rule_keeps.f k (n : Int) sw fe keep (st : Int)) (goodB sw n fe keep st) := by
  have hp := pow_le10 h
  have hn := h.2.1
  obtain ⟨t, h1, h2, h3⟩ := fed_ev n (by omega) sw h.sw8 (by have := h.2.2.1; omega) fe h.fe (by have := h.2.2.2.1; omega) st (by omega)
  have e : ∀ i ∈ keep, (rd t i == 0) = (rd (marks sw st n fe) i == 0) := fun i hi => by
    obtain ⟨a, b⟩ := hk.1 i hi
    obtain ⟨i, rfl⟩ := Int.eq_ofNat_of_zero_le a
    obtain ⟨m, e, hm⟩ := h3 i (by omega)
    obtain ⟨m', e', hm'⟩ := (marks_mark h hst).2 i (by omega)
    obtain rfl := mask_unique hm hm'
    have hz := lv_zero m hm.1 (mask_zero (n := n) h.fe hm)
    rw [e, e', Bool.eq_iff_iff, beq_iff_eq, beq_iff_eq, hz]
    omega
  have hany : keep.any (feed_rule_keeps.p t) = keep.any (fun i => rd (marks sw st n fe) i == 0) := by
    rw [Bool.eq_iff_iff, List.any_eq_true, List.any_eq_true]
    constructor
    · rintro ⟨x, hx, hb⟩; exact ⟨x, hx, by rw [← e x hx]; exact hb⟩
    · rintro ⟨x, hx, hb⟩; exact ⟨x, hx, by show (rd t x == 0) = true; rw [e x hx]; exact hb⟩
  have hall : (keep.all fun x => decide (0 ≤ x) && decide (x < (t.length : Int))) = true := by
    rw [List.all_eq_true]
    intro x hx
    have := hk.1 x hx
    rw [h2]
    simp; omega
  unfold feed_rule_keeps.f goodB
  refine Ev.bind h1 (Ev.bind (rightB_val h hst) ?_)
  cases hr : rightB sw st n fe with
  | true =>
    refine ev_pos rfl (ev_pos hall (ev_const (congrArg some ?_)))
    rw [hany]; rfl
  | false => exact ev_neg (by simp) (Ev.now _)
include hkl
theorem good_l0 {st : Nat} (hst : st < 2 ^ sw.length) : ∀ (d i : Nat), i + d = keep.length → (∀ j (h : j < keep.length), j < i → rd (marks sw st n fe) keep[j] ≠ 0) →
    Ev (fun k => dropperref05_Good.l0 k keep (marks sw st n fe) (i : Int)) (!(keep.any fun i => rd (marks sw st n fe) i == 0)) := by
  have hml := marks_len h hst
  intro d
  induction d with
  | zero =>
    intro i hi hb
    refine Ev.step (fun k => by rw [dropperref05_Good.l0]) ?_
    refine ev_neg (by omega) (ev_const (congrArg some ?_))
    have : (keep.any fun i => rd (marks sw st n fe) i == 0) = false := by
      rw [List.any_eq_false]
      intro v hv
      obtain ⟨j, hj, rfl⟩ := List.mem_iff_getElem.1 hv
      have := hb j hj (by omega)
      simpa using this
    rw [this]; rfl
  | succ d ih =>
    intro i hi hb
    have hil : i < keep.length := by omega
    obtain ⟨a, b⟩ := hk.1 _ (List.getElem_mem hil)
    refine Ev.step (fun k => by rw [dropperref05_Good.l0]) ?_
    rw [rd_get hil, wrap_succ i (by omega), hml]
    refine ev_pos (by omega) (ev_pos (by omega) (ev_pos a (ev_pos b ?_)))
    by_cases hz : rd (marks sw st n fe) keep[i] = 0
    · refine ev_pos hz (ev_const (congrArg some ?_))
      have : (keep.any fun i => rd (marks sw st n fe) i == 0) = true := List.any_eq_true.2 ⟨_, List.getElem_mem hil, by simpa using hz⟩
      rw [this]; rfl
    · refine ev_neg hz (ih (i + 1) (by omega) (fun j hj hji => ?_))
      by_cases e : j < i
      · exact hb j hj e
      · obtain rfl : j = i := by omega
        exact hz
theorem good_val (st : Int) : Ev (fun k => dropperref05_Good.f k (n : Int) sw fe st keep) (decide (0 ≤ st ∧ st < ((2 ^ sw.length : Nat) : Int)) && goodB sw n fe keep st.toNat) := by
  have hlen := h.2.2.1
  have no : Ev (fun k => dropperref05_Good.j0 k st keep true (n : Int) sw fe) false := by
    refine Ev.step (fun k => by rw [dropperref05_Good.j0]) ?_
    exact ev_pos rfl (Ev.now _)
  unfold dropperref05_Good.f dropperref05_IsState.f
  rw [shl_one _ (by omega)]
  by_cases h0 : st ≥ 0
  · obtain ⟨s, rfl⟩ := Int.eq_ofNat_of_zero_le h0
    rw [Int.toNat_natCast]
    by_cases h1 : (s : Int) < ((2 ^ sw.length : Nat) : Int)
    · have hst : s < 2 ^ sw.length := by omega
      rw [decide_eq_true (p := 0 ≤ (s : Int) ∧ (s : Int) < ((2 ^ sw.length : Nat) : Int)) ⟨h0, h1⟩, Bool.true_and]
      rw [if_pos h0, decide_eq_true h1]
      refine ev_some (ev_pos rfl (Ev.bind (rrightB_val h hst) ?_))
      unfold goodB
      cases hr : rightB sw s n fe with
      | true =>
        refine Ev.step (fun k => by rw [dropperref05_Good.j0]) (ev_neg (by simp) (Ev.bind (rlive_val h hst) ?_))
        rw [Bool.true_and]
        exact good_l0 h hk hkl hst keep.length 0 (by omega) (fun j hj h0 => by omega)
      | false =>
        refine Ev.step (fun k => by rw [dropperref05_Good.j0]) ?_
        exact ev_pos rfl (Ev.now _)
    · rw [decide_eq_false (p := 0 ≤ (s : Int) ∧ (s : Int) < ((2 ^ sw.length : Nat) : Int)) (fun e => h1 e.2), Bool.false_and]
      rw [if_pos h0, decide_eq_false h1]
      exact ev_some (ev_neg (by simp) no)
  · rw [decide_eq_false (p := 0 ≤ st ∧ st < ((2 ^ sw.length : Nat) : Int)) (fun e => h0 e.1), Bool.false_and]
    rw [if_neg h0]
    exact ev_some (ev_neg (by simp) no)
end
/-- the error at the beginning -/
noncomputable def begE (N : Int) (sw : List S69) (fe : List S71) (keep : List Int) (st : Int) : Int :=
  if GridOk N sw fe then (if KeepOk N keep then (if (0 ≤ st ∧ st < ((2 ^ sw.length : Nat) : Int)) ∧ goodB sw N.toNat fe keep st.toNat = true then 0 else 51) else 2) else 50
theorem begE_nat {N : Int} {sw : List S69} {fe : List S71} {keep : List Int} {st : Int} (h : begE N sw fe keep st = 0) :
    ∃ n s : Nat, N = (n : Int) ∧ st = (s : Int) ∧ GridOk (n : Int) sw fe ∧ KeepOk (n : Int) keep ∧ s < 2 ^ sw.length ∧ goodB sw n fe keep s = true := by
  unfold begE at h
  by_cases hg : GridOk N sw fe
  · rw [if_pos hg] at h
    by_cases hk : KeepOk N keep
    · rw [if_pos hk] at h
      by_cases hs : (0 ≤ st ∧ st < ((2 ^ sw.length : Nat) : Int)) ∧ goodB sw N.toNat fe keep st.toNat = true
      · obtain ⟨n, rfl⟩ := Int.eq_ofNat_of_zero_le (show 0 ≤ N by have := hg.1; omega)
        obtain ⟨s, rfl⟩ := Int.eq_ofNat_of_zero_le hs.1.1
        rw [Int.toNat_natCast, Int.toNat_natCast] at hs
        exact ⟨n, s, rfl, rfl, hg, hk, by omega, hs.2⟩
      · rw [if_neg hs] at h; cases h
    · rw [if_neg hk] at h; cases h
  · rw [if_neg hg] at h; cases h
theorem ruled_val (N : Int) (sw : List S69) (fe : List S71) (keep : List Int) (hkl : keep.length ≤ 4000000000000000000) (st : Int) :
    Ev (fun k => feed_ruled.f k N sw fe st keep) (N, begE N sw fe keep st) ∧ Ev (fun k => dropperref05_begun.f k N sw fe st keep) (begE N sw fe keep st) := by
  unfold feed_ruled.f dropperref05_begun.f begE
  rw [valid_f]
  by_cases hg : GridOk N sw fe
  · rw [if_pos hg]
    have hrv := rvalid_ev N sw fe
    obtain ⟨n, rfl⟩ := Int.eq_ofNat_of_zero_le (show 0 ≤ N by have := hg.1; omega)
    have hn := hg.1
    have hn8 := hg.2.1
    have hp := pow_le10 hg
    rw [decide_eq_true hg, Int.toNat_natCast, all_f _ _ _ hg.2.2.1]
    have kv := kept_val n (by omega) sw fe keep hkl
    have iv := isKeep_val n sw fe keep hkl
    by_cases hk : KeepOk (n : Int) keep
    · rw [if_pos hk] at kv ⊢
      rw [decide_eq_true hk] at iv
      have gv := good_val hg hk hkl st
      by_cases hr : 0 ≤ st ∧ st < ((2 ^ sw.length : Nat) : Int)
      · obtain ⟨s, rfl⟩ := Int.eq_ofNat_of_zero_le hr.1
        have hs : s < 2 ^ sw.length := by omega
        rw [decide_eq_true hr, Bool.true_and] at gv
        rw [Int.toNat_natCast] at gv ⊢
        have kp := keeps_val hg hk hs
        cases hgd : goodB sw n fe keep s with
        | true =>
          rw [hgd] at gv kp
          rw [if_pos ⟨hr, rfl⟩]
          constructor
          · refine ev_some (ev_pos rfl (Ev.bind kv (ev_pos rfl (ev_some ?_))))
            generalize 2 ^ sw.length = P at *
            rw [wrap_id (by omega) (by omega), within_f]
            exact ev_some (ev_pos (decide_eq_true (by omega)) (Ev.bind kp (ev_pos rfl (Ev.now _))))
          · exact Ev.bind hrv (ev_pos (decide_eq_true hg) (Ev.bind iv (ev_pos rfl (Ev.bind gv (ev_pos rfl (Ev.now _))))))
        | false =>
          rw [hgd] at gv kp
          rw [if_neg (fun e => by cases e.2)]
          constructor
          · refine ev_some (ev_pos rfl (Ev.bind kv (ev_pos rfl (ev_some ?_))))
            generalize 2 ^ sw.length = P at *
            rw [wrap_id (by omega) (by omega), within_f]
            exact ev_some (ev_pos (decide_eq_true (by omega)) (Ev.bind kp (ev_neg (by simp) (Ev.now _))))
          · exact Ev.bind hrv (ev_pos (decide_eq_true hg) (Ev.bind iv (ev_pos rfl (Ev.bind gv (ev_neg (by simp) (Ev.now _))))))
      · rw [decide_eq_false hr, Bool.false_and] at gv
        rw [if_neg (fun e => hr e.1)]
        constructor
        · refine ev_some (ev_pos rfl (Ev.bind kv (ev_pos rfl (ev_some ?_))))
          generalize 2 ^ sw.length = P at *
          rw [wrap_id (by omega) (by omega), within_f]
          exact ev_some (ev_neg (by simp only [decide_eq_true_eq]; omega) (Ev.now _))
        · exact Ev.bind hrv (ev_pos (decide_eq_true hg) (Ev.bind iv (ev_pos rfl (Ev.bind gv (ev_neg (by simp) (Ev.now _))))))
    · rw [if_neg hk] at kv ⊢
      rw [decide_eq_false hk] at iv
      constructor
      · exact ev_some (ev_pos rfl (Ev.bind kv (ev_neg (by decide) (Ev.now _))))
      · exact Ev.bind hrv (ev_pos (decide_eq_true hg) (Ev.bind iv (ev_neg (by simp) (Ev.now _))))
  · rw [if_neg hg, decide_eq_false hg]
    constructor
    · exact ev_some (ev_neg (by simp) (Ev.now _))
    · exact Ev.bind (rvalid_ev N sw fe) (ev_neg (by simpa using hg) (Ev.now _))

/-! one switch more, or less -/
theorem flip_lt {st v len : Nat} (h : st < 2 ^ len) (hv : v < len) : st ^^^ 2 ^ v < 2 ^ len := Nat.xor_lt_two_pow h (Nat.pow_lt_pow_right (by decide) hv)
theorem flip_i {st v : Nat} (h : st < 2 ^ 62) (hv : v ≤ 20) : Go.bits .xor .i64 (st : Int) (shl .i64 1 (v : Int)) = ((st ^^^ 2 ^ v : Nat) : Int) := by
  have : 2 ^ v ≤ 2 ^ 20 := Nat.pow_le_pow_right (by decide) hv
  rw [shl_one v hv, xor_i h (by omega)]
noncomputable def stepOf (sw : List S69) (n : Nat) (fe : List S71) (keep : List Int) (st i : Nat) : Int := if goodB sw n fe keep (st ^^^ 2 ^ i) = true then ((st ^^^ 2 ^ i : Nat) : Int) else -1
noncomputable def stepsL (sw : List S69) (n : Nat) (fe : List S71) (keep : List Int) (st m : Nat) : List Int := (List.range m).map (stepOf sw n fe keep st)
theorem stepsL_len {sw : List S69} {n : Nat} {fe : List S71} {keep : List Int} {st m : Nat} : (stepsL sw n fe keep st m).length = m := by simp [stepsL]
theorem stepsL_succ {sw : List S69} {n : Nat} {fe : List S71} {keep : List Int} {st m : Nat} : stepsL sw n fe keep st (m + 1) = stepsL sw n fe keep st m ++ [stepOf sw n fe keep st m] := by simp [stepsL, List.range_succ]
theorem stepsL_rd {sw : List S69} {n : Nat} {fe : List S71} {keep : List Int} {st m i : Nat} (h : i < m) : rd (stepsL sw n fe keep st m) (i : Int) = stepOf sw n fe keep st i := by
  rw [rd_get (by rw [stepsL_len]; exact h)]; simp [stepsL]
section
variable {n : Nat} {sw : List S69} {fe : List S71} (h : GridOk (n : Int) sw fe) {keep : List Int} (hk : KeepOk (n : Int) keep)
include h hk
theorem steps_l0 {st : Nat} (hst : st < 2 ^ sw.length) : ∀ (d i : Nat), i + d = sw.length →
    Ev (fun k => feed_rule_steps.l0 k (st : Int) (stepsL sw n fe keep st i) (sw.length : Int) (i : Int) (n : Int) sw fe keep) (stepsL sw n fe keep st sw.length) := by
  have hp := pow_le10 h
  have hlen := h.2.2.1
  intro d
  induction d with
  | zero =>
    intro i hi
    obtain rfl : i = sw.length := by omega
    refine Ev.step (fun k => by rw [feed_rule_steps.l0]) ?_
    exact ev_neg (by omega) (Ev.now _)
  | succ d ih =>
    intro i hi
    have hsl := stepsL_len (sw := sw) (n := n) (fe := fe) (keep := keep) (st := st) (m := i)
    have i1 := ih (i + 1) (by omega)
    rw [stepsL_succ, stepOf] at i1
    refine Ev.step (fun k => by rw [feed_rule_steps.l0]) ?_
    rw [wrap_succ i (by omega), flip_i (by omega) (by omega), hsl]
    refine ev_pos (by omega) (ev_pos (by omega) (Ev.bind (keeps_val h hk (flip_lt hst (by omega))) ?_))
    cases hg : goodB sw n fe keep (st ^^^ 2 ^ i) with
    | true => rw [hg, if_pos rfl] at i1; exact ev_pos rfl (ev_pos (by omega) i1)
    | false => rw [hg, if_neg (by simp)] at i1; exact ev_neg (by simp) (ev_pos (by omega) i1)
theorem steps_val {st : Nat} (hst : st < 2 ^ sw.length) : Ev (fun k => feed_rule_steps.f k (n : Int) sw fe keep (st : Int)) (stepsL sw n fe keep st sw.length) := by
  unfold feed_rule_steps.f
  exact steps_l0 h hk hst sw.length 0 (by omega)
end
/-! lists of switches -/
def ListOk (len : Nat) (l : List Int) : Prop := l.length ≤ 1000 ∧ ∀ v ∈ l, 0 ≤ v ∧ v < (len : Int)
theorem switches_f (N : Int) (sw : List S69) (fe : List S71) (hs : sw.length ≤ 20) (l : List Int) : feed_grid_switches.f N sw fe l = some (decide (ListOk sw.length l)) := by
  unfold feed_grid_switches.f
  congr 1
  rw [Bool.eq_iff_iff, decide_eq_true_eq, Bool.and_eq_true, decide_eq_true_eq, Bool.not_eq_true', List.any_eq_false]
  unfold ListOk
  constructor
  · rintro ⟨a, b⟩
    refine ⟨by omega, fun v hv => ?_⟩
    have := b v hv
    unfold feed_grid_switches.bad at this
    rw [wrap_id (by omega) (by omega)] at this
    simp at this; omega
  · rintro ⟨a, b⟩
    refine ⟨by omega, fun v hv => ?_⟩
    have := b v hv
    unfold feed_grid_switches.bad
    rw [wrap_id (by omega) (by omega)]
    simp; omega
theorem isList_l0 (N : Int) (sw : List S69) (fe : List S71) (l : List Int) (hl : l.length ≤ 4000000000000000000) : ∀ (d i : Nat), i + d = l.length → (∀ j (h : j < l.length), j < i → 0 ≤ l[j] ∧ l[j] < (sw.length : Int)) →
    Ev (fun k => dropperref05_isList.l0 k l (i : Int) N sw fe) (decide (ListOk sw.length l)) := by
  intro d
  induction d with
  | zero =>
    intro i hi hb
    refine Ev.step (fun k => by rw [dropperref05_isList.l0]) ?_
    refine ev_neg (by omega) (ev_const (congrArg some ?_))
    rw [decide_eq_decide]
    refine ⟨fun a => ⟨by omega, fun v hv => ?_⟩, fun a => by have := a.1; omega⟩
    obtain ⟨j, hj, rfl⟩ := List.mem_iff_getElem.1 hv
    exact hb j hj (by omega)
  | succ d ih =>
    intro i hi hb
    have hil : i < l.length := by omega
    have no : ¬ (0 ≤ l[i] ∧ l[i] < (sw.length : Int)) → false = decide (ListOk sw.length l) := fun hn => by
      symm; exact decide_eq_false (fun e => hn (e.2 _ (List.getElem_mem hil)))
    refine Ev.step (fun k => by rw [dropperref05_isList.l0]) ?_
    rw [rd_get hil, wrap_succ i (by omega)]
    refine ev_pos (by omega) (ev_pos (by omega) ?_)
    by_cases h0 : l[i] < 0
    · exact ev_pos h0 (ev_const (congrArg some (no (by omega))))
    refine ev_neg h0 ?_
    by_cases h1 : l[i] ≥ (sw.length : Int)
    · exact ev_pos h1 (ev_const (congrArg some (no (by omega))))
    refine ev_neg h1 (ih (i + 1) (by omega) (fun j hj hji => ?_))
    by_cases e : j < i
    · exact hb j hj e
    · obtain rfl : j = i := by omega
      omega
theorem isList_val (N : Int) (sw : List S69) (fe : List S71) (l : List Int) (hl : l.length ≤ 4000000000000000000) : Ev (fun k => dropperref05_isList.f k N sw fe l) (decide (ListOk sw.length l)) := by
  unfold dropperref05_isList.f
  exact isList_l0 N sw fe l hl l.length 0 (by omega) (fun j hj h0 => by omega)
/-- where switches lead -/
def afterN (st : Nat) : List Int → Nat
  | [] => st
  | v :: t => afterN (st ^^^ 2 ^ v.toNat) t
/-- all states on the way keep the rule -/
noncomputable def orderB (sw : List S69) (n : Nat) (fe : List S71) (keep : List Int) (st : Nat) : List Int → Bool
  | [] => true
  | v :: t => goodB sw n fe keep (st ^^^ 2 ^ v.toNat) && orderB sw n fe keep (st ^^^ 2 ^ v.toNat) t
theorem after_l0 {len : Nat} (hlen : len ≤ 10) (l : List Int) (hl : l.length ≤ 4000000000000000000) (hv : ∀ v ∈ l, 0 ≤ v ∧ v < (len : Int)) : ∀ (d i st : Nat), i + d = l.length → st < 2 ^ len →
    Ev (fun k => feed_After.l0 k (st : Int) l (l.length : Int) (i : Int)) ((afterN st (l.drop i) : Int), 0) ∧ Ev (fun k => dropperref05_After.l0 k (st : Int) l (i : Int)) ((afterN st (l.drop i) : Int), 0) := by
  have hp : 2 ^ len ≤ 2 ^ 10 := Nat.pow_le_pow_right (by decide) hlen
  intro d
  induction d with
  | zero =>
    intro i st hi hst
    obtain rfl : i = l.length := by omega
    rw [List.drop_length]
    constructor
    · refine Ev.step (fun k => by rw [feed_After.l0]) ?_
      exact ev_neg (by omega) (Ev.now _)
    · refine Ev.step (fun k => by rw [dropperref05_After.l0]) ?_
      exact ev_neg (by omega) (Ev.now _)
  | succ d ih =>
    intro i st hi hst
    have hil : i < l.length := by omega
    obtain ⟨a, b⟩ := hv _ (List.getElem_mem hil)
    obtain ⟨v, hv⟩ := Int.eq_ofNat_of_zero_le a
    obtain ⟨i1, i2⟩ := ih (i + 1) (st ^^^ 2 ^ v) (by omega) (flip_lt hst (by omega))
    rw [cons_of hil, afterN, hv, Int.toNat_natCast]
    constructor
    · refine Ev.step (fun k => by rw [feed_After.l0]) ?_
      rw [rd_get hil, hv, wrap_succ i (by omega), flip_i (by omega) (by omega)]
      exact ev_pos (by omega) (ev_pos (by omega) (ev_pos (by omega) (ev_pos (by omega) i1)))
    · refine Ev.step (fun k => by rw [dropperref05_After.l0]) ?_
      rw [rd_get hil, hv, wrap_succ i (by omega), flip_i (by omega) (by omega)]
      exact ev_pos (by omega) (ev_pos (by omega) (ev_pos (by omega) i2))
section
variable {n : Nat} {sw : List S69} {fe : List S71} (h : GridOk (n : Int) sw fe) {keep : List Int} (hk : KeepOk (n : Int) keep) (hkl : keep.length ≤ 4000000000000000000)
include h hk hkl
theorem order_l0 (l : List Int) (hl : l.length ≤ 4000000000000000000) (hv : ∀ v ∈ l, 0 ≤ v ∧ v < (sw.length : Int)) : ∀ (d i st : Nat), i + d = l.length → st < 2 ^ sw.length →
    Ev (fun k => feed_IsOrder.l0 k (st : Int) l (l.length : Int) (i : Int) (n : Int) sw fe keep) (orderB sw n fe keep st (l.drop i), 0) ∧ Ev (fun k => dropperref05_IsOrder.l0 k (st : Int) keep l (i : Int) (n : Int) sw fe) (orderB sw n fe keep st (l.drop i), 0) := by
  have hp := pow_le10 h
  have hlen := h.2.2.1
  intro d
  induction d with
  | zero =>
    intro i st hi hst
    obtain rfl : i = l.length := by omega
    rw [List.drop_length]
    constructor
    · refine Ev.step (fun k => by rw [feed_IsOrder.l0]) ?_
      exact ev_neg (by omega) (Ev.now _)
    · refine Ev.step (fun k => by rw [dropperref05_IsOrder.l0]) ?_
      exact ev_neg (by omega) (Ev.now _)
  | succ d ih =>
    intro i st hi hst
    have hil : i < l.length := by omega
    obtain ⟨a, b⟩ := hv _ (List.getElem_mem hil)
    obtain ⟨v, hv⟩ := Int.eq_ofNat_of_zero_le a
    have hfl := flip_lt hst (show v < sw.length by omega)
    obtain ⟨i1, i2⟩ := ih (i + 1) (st ^^^ 2 ^ v) (by omega) hfl
    have gv := good_val h hk hkl ((st ^^^ 2 ^ v : Nat) : Int)
    rw [decide_eq_true (by omega), Bool.true_and, Int.toNat_natCast] at gv
    have hsl := stepsL_len (sw := sw) (n := n) (fe := fe) (keep := keep) (st := st) (m := sw.length)
    have hsr := stepsL_rd (sw := sw) (n := n) (fe := fe) (keep := keep) (st := st) (m := sw.length) (i := v) (by omega)
    rw [cons_of hil, orderB, hv, Int.toNat_natCast]
    have e1 : ∀ X : Nat → Option (Bool × Int), Ev X (goodB sw n fe keep (st ^^^ 2 ^ v) && orderB sw n fe keep (st ^^^ 2 ^ v) (l.drop (i + 1)), 0) → Ev X (goodB sw n fe keep (st ^^^ 2 ^ v) && orderB sw n fe keep (st ^^^ 2 ^ v) (l.drop (i + 1)), 0) := fun _ h => h
    cases hg : goodB sw n fe keep (st ^^^ 2 ^ v) with
    | true =>
      rw [Bool.true_and]
      unfold stepOf at hsr
      rw [hg, if_pos rfl] at hsr
      rw [hg] at gv
      constructor
      · refine Ev.step (fun k => by rw [feed_IsOrder.l0]) ?_
        rw [rd_get hil, hv, wrap_succ i (by omega)]
        refine ev_pos (by omega) (ev_pos (by omega) (ev_pos (by omega) (Ev.bind (steps_val h hk hst) ?_)))
        rw [hsl, hsr]
        exact ev_pos (by omega) (ev_pos (by omega) (ev_neg (by omega) i1))
      · refine Ev.step (fun k => by rw [dropperref05_IsOrder.l0]) ?_
        rw [rd_get hil, hv, wrap_succ i (by omega), flip_i (by omega) (by omega)]
        exact ev_pos (by omega) (ev_pos (by omega) (ev_pos (by omega) (Ev.bind gv (ev_pos rfl i2))))
    | false =>
      rw [Bool.false_and]
      unfold stepOf at hsr
      rw [hg, if_neg (by simp)] at hsr
      rw [hg] at gv
      constructor
      · refine Ev.step (fun k => by rw [feed_IsOrder.l0]) ?_
        rw [rd_get hil, hv, wrap_succ i (by omega)]
        refine ev_pos (by omega) (ev_pos (by omega) (ev_pos (by omega) (Ev.bind (steps_val h hk hst) ?_)))
        rw [hsl, hsr]
        exact ev_pos (by omega) (ev_pos (by omega) (ev_pos (by omega) (Ev.now _)))
      · refine Ev.step (fun k => by rw [dropperref05_IsOrder.l0]) ?_
        rw [rd_get hil, hv, wrap_succ i (by omega), flip_i (by omega) (by omega)]
        exact ev_pos (by omega) (ev_pos (by omega) (ev_pos (by omega) (Ev.bind gv (ev_neg (by simp) (Ev.now _)))))
end
end Go.Proofs.YtoilhnmdemnknaaDoor.Plain

namespace Go.Proofs.YtoilhnmdemnknaaDoor.Plain
open Go.RowKit Go.Proofs.YtoilhnmdemnknaaDoor.XFeed Go.Proofs.YtoilhnmdemnknaaDoorW.PrintWords Go.Proofs.YtoilhnmdemnknaaDoorW.PrintLast Go.Proofs.YtoilhnmdemnknaaDoorW.PrintMore
theorem first_at : dropperlaw05_First.f 200 = some true := by kernel_rfl
theorem first_ev : Ev (fun k => dropperlaw05_First.f k) true := Ev.of (dropperlaw05_First.mono) first_at
end Go.Proofs.YtoilhnmdemnknaaDoor.Plain
