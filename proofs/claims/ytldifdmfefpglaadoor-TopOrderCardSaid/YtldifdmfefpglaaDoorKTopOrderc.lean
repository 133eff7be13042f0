-- Written by wip/pack.py of this repo: texts of this claim, put together.
import Derived.Test.YtldifdmfefpglaaDoorKTopOrderb
namespace Go.Proofs.YtldifdmfefpglaaDoor.XFeed
open Go.RowKit Go.Proofs.YtldifdmfefpglaaDoorW.PrintWords Go.Proofs.YtldifdmfefpglaaDoorW.PrintLast Go.Proofs.YtldifdmfefpglaaDoorW.PrintMore
attribute [local go_sem] max2_int min2_int max_two min_two max_three min_three max_four min_four   -- for this text's walks alone
set_option linter.unusedVariables false
set_option linter.unusedSimpArgs false
/-! ### dropperref05_Good: function 6 -/
mutual
def dropperref05_Good.j0 : Nat → Int → List Int → Bool → Int → List (S47) → List (S49) → Option (Bool)
 | 0, _, _, _, _, _, _ => none
 | k + 1, x1, x2, x18, x148000, x148001, x148002 => if x18 = true then (some false) else ((dropperref05_live.f k x148000 x148001 x148002 x1).bind fun t150 => (dropperref05_Good.l0 k x2 t150 0))
def dropperref05_Good.l0 : Nat → List Int → List Int → Int → Option (Bool)
 | 0, _, _, _ => none
 | k + 1, x2, x7, x8 => if x8 < (x2.length : Int) then (if 0 ≤ x8 then (if 0 ≤ (rd x2 x8) then (if (rd x2 x8) < (x7.length : Int) then (if (rd x7 (rd x2 x8)) = 0 then (some false) else (dropperref05_Good.l0 k x2 x7 (wrap64 (x8 + 1)))) else (none)) else (none)) else (none)) else (some true)
end
def dropperref05_Good.f (k : Nat) (a0_0 : Int) (l0_1 : List (S47)) (l0_2 : List (S49)) (a1 : Int) (l2 : List Int) : Option (Bool) := (dropperref05_IsState.f a0_0 l0_1 l0_2 a1).bind fun t148 => (if t148 = true then ((dropperref05_right.f k a0_0 l0_1 l0_2 a1).bind fun t149 => (dropperref05_Good.j0 k a1 l2 (!t149) a0_0 l0_1 l0_2)) else (dropperref05_Good.j0 k a1 l2 true a0_0 l0_1 l0_2))
set_option maxHeartbeats 8000000 in
set_option maxRecDepth 100000 in
theorem dropperref05_Good.calls (k : Nat) (a0_0 : Int) (A0_1 : Option Addr) (c0_1 : Nat) (l0_1 : List (S47)) (A0_2 : Option Addr) (c0_2 : Nat) (l0_2 : List (S49)) (a1 : Int) (A2 : Option Addr) (c2 : Nat) (l2 : List Int) (r : Bool) (w : World) (hr0_1 : Kd.C k47 w A0_1 l0_1.length l0_1) (hc0_1 : l0_1.length ≤ c0_1) (hr0_2 : Kd.C k49 w A0_2 l0_2.length l0_2) (hc0_2 : l0_2.length ≤ c0_2) (hr2 : Kd.C (Kd.int .i64) w A2 l2.length l2) (hc2 : l2.length ≤ c2) (h : dropperref05_Good.f k a0_0 l0_1 l0_2 a1 l2 = some r) :
  Calls Tryd.prog 6 #[.agg #[.int .i64 a0_0, .slice A0_1 l0_1.length c0_1, .slice A0_2 l0_2.length c0_2], .int .i64 a1, .slice A2 l2.length c2] w fun e w' => e = .returned (.bool r) ∧ Below w.heap.size w w' := by
 have hu25 := Tryd.underlying25
 have HR0_1 := Aside0.mk hr0_1
 have HC0_1 := Aside0.mk hc0_1
 clear hr0_1 hc0_1
 have HR0_2 := Aside0.mk hr0_2
 have HC0_2 := Aside0.mk hc0_2
 clear hr0_2 hc0_2
 have HR2 := Aside0.mk hr2
 have HC2 := Aside0.mk hc2
 clear hr2 hc2
 have HB := Aside0.mk (Below.refl w.heap.size w)
 have H : ((dropperref05_IsState.f a0_0 l0_1 l0_2 a1).bind fun t148 => (if t148 = true then ((dropperref05_right.f k a0_0 l0_1 l0_2 a1).bind fun t149 => (dropperref05_Good.j0 k a1 l2 (!t149) a0_0 l0_1 l0_2)) else (dropperref05_Good.j0 k a1 l2 true a0_0 l0_1 l0_2))) = some r := h
 clear h
 have HC4 := Aside0.mk H
 clear H
 go_enter Tryd.func6, Tryd.ntmps6
 go_upto_region 1 with (first | ((with_reducible refine gate_dst (N := 3) rfl ?_); refine box_event ?hg (N := 3) ?hd (cs := #[.int .i64 a0_0, .slice A0_1 l0_1.length c0_1, .slice A0_2 l0_2.length c0_2]) (t := 25) ?hr ?_; (case hd => rfl); (case hg => rfl); (case hr => first | (go_simp; done) | (go_simp; rfl)); intro gb147 hg w5 hbox hb; have BK147 := Aside0.mk (hbox); have GW147 := bsz (w := w) hg; have GE147 := GW147; replace HB := Aside0.mk (below_step bel hb); clear hb hbox hg))
 (try simp only [Act.put, List.setIfInBounds_toArray, List.set_cons_zero, List.set_cons_succ])
 go_cut [18] (fun v18 wc => ∃ (kq : Nat) (x18_3 : Bool), v18 = .bool x18_3 ∧ Aside0 (dropperref05_Good.j0 kq a1 l2 x18_3 a0_0 l0_1 l0_2 = some r) ∧ Aside0 (kq ≤ k) ∧ Aside0 (wc.heap[gb147]? = some (.cells #[.int .i64 a0_0, (.slice A0_1 l0_1.length c0_1), (.slice A0_2 l0_2.length c0_2)] 25 (0, 0))) ∧ Aside0 (Below w.heap.size w wc))
 case first =>
  have H := HC4.out
  clear HC4
  replace H := Option.bind_eq_some_iff.mp H
  obtain ⟨t148, A60, H⟩ := H
  try dsimp only at H
  have A6 := Aside0.mk A60
  clear A60
  by_cases c7 : t148 = true
  ·
   subst c7
   rw [if_pos rfl] at H
   replace H := Option.bind_eq_some_iff.mp H
   obtain ⟨t149, A80, H⟩ := H
   try dsimp only at H
   have A8 := Aside0.mk A80
   clear A80
   have H' := Aside0.mk H
   clear H
   obtain ⟨hcz9_0, hcz9_1, hcz9_2⟩ := bc3 BK147.out
   obtain ⟨hfz9_0, hfz9_1, hfz9_2⟩ := bf3 BK147.out
   go_wp2_with (first | ((with_reducible refine gate_callee (f := 7) rfl ?_); refine goesL_ (some 11) rfl rfl Tryd.func7 (by kernel_rfl) rfl #[.agg #[.int .i64 a0_0, .slice A0_1 l0_1.length c0_1, .slice A0_2 l0_2.length c0_2], .int .i64 a1] rfl mapz ?_; (with_reducible refine (dropperref05_IsState.calls a0_0 _ _ l0_1 _ _ l0_2 a1 true _ (cbz HR0_1) HC0_1.out (cbz HR0_2) HC0_2.out A6.out).mono ?_); rintro e w10 ⟨rfl, hb⟩; refine ⟨_, rfl, ?_⟩; replace BK147 := Aside0.mk (blk_below (g := gb147) blkz hb); replace HB := Aside0.mk (below_step bel hb); clear hb; obtain ⟨hcz11_0, hcz11_1, hcz11_2⟩ := bc3 BK147.out) | (go_at_call 18; (with_reducible refine (dropperref05_right.calls k a0_0 _ _ l0_1 _ _ l0_2 a1 t149 _ (cbz HR0_1) HC0_1.out (cbz HR0_2) HC0_2.out A8.out).mono ?_); rintro e w12 ⟨rfl, hb⟩; replace BK147 := Aside0.mk (blk_below (g := gb147) blkz hb); replace HB := Aside0.mk (below_step bel hb); clear hb))
   go_meet
   case rel => exact ⟨_, (!t149), rsz, H', ⟨by first | omega | exact Nat.le_refl _⟩, ⟨blkz⟩, ⟨bel⟩⟩
  ·
   replace c7 := Bool.eq_false_iff.mpr c7
   subst c7
   rw [if_neg (show ¬ (false = true) by decide)] at H
   have H' := Aside0.mk H
   clear H
   obtain ⟨hcz13_0, hcz13_1, hcz13_2⟩ := bc3 BK147.out
   obtain ⟨hfz13_0, hfz13_1, hfz13_2⟩ := bf3 BK147.out
   go_wp2_with (first | ((with_reducible refine gate_callee (f := 7) rfl ?_); refine goesL_ (some 11) rfl rfl Tryd.func7 (by kernel_rfl) rfl #[.agg #[.int .i64 a0_0, .slice A0_1 l0_1.length c0_1, .slice A0_2 l0_2.length c0_2], .int .i64 a1] rfl mapz ?_; (with_reducible refine (dropperref05_IsState.calls a0_0 _ _ l0_1 _ _ l0_2 a1 false _ (cbz HR0_1) HC0_1.out (cbz HR0_2) HC0_2.out A6.out).mono ?_); rintro e w14 ⟨rfl, hb⟩; refine ⟨_, rfl, ?_⟩; replace BK147 := Aside0.mk (blk_below (g := gb147) blkz hb); replace HB := Aside0.mk (below_step bel hb); clear hb))
   go_meet
   case rel => exact ⟨_, (true), rsz, H', ⟨by first | omega | exact Nat.le_refl _⟩, ⟨blkz⟩, ⟨bel⟩⟩
 case rest =>
  clear HC4
  (try clear c2); (try clear p2); (try clear c6); (try clear c7); (try clear hcz11_0); (try clear hcz11_1); (try clear hcz11_2); (try clear hcz13_0); (try clear hcz13_1); (try clear hcz13_2); (try clear hcz9_0); (try clear hcz9_1); (try clear hcz9_2); (try clear hfz11_0); (try clear hfz11_1); (try clear hfz11_2); (try clear hfz13_0); (try clear hfz13_1); (try clear hfz13_2); (try clear hfz9_0); (try clear hfz9_1); (try clear hfz9_2)
  obtain ⟨kq, x18_3, rfl, HA, HJ3, BK147, HB⟩ := hcut
  cases kq with
  | zero => exact absurd HA.out (by simp [dropperref05_Good.j0])
  | succ kj3 =>
   have H := HA.out
   clear HA
   simp only [dropperref05_Good.j0] at H
   by_cases c15 : x18_3 = true
   ·
    subst c15
    rw [if_pos rfl] at H
    obtain rfl := Option.some.inj H
    go_wp2
    go_ret
    exact ⟨ezz, bel⟩
   ·
    replace c15 := Bool.eq_false_iff.mpr c15
    subst c15
    rw [if_neg (show ¬ (false = true) by decide)] at H
    replace H := Option.bind_eq_some_iff.mp H
    obtain ⟨t150, A160, H⟩ := H
    try dsimp only at H
    have A16 := Aside0.mk A160
    clear A160
    have H' := Aside0.mk H
    clear H
    obtain ⟨hcz17_0, hcz17_1, hcz17_2⟩ := bc3 BK147.out
    obtain ⟨hfz17_0, hfz17_1, hfz17_2⟩ := bf3 BK147.out
    go_wp2_with (first | ((with_reducible refine gate_callee (f := 19) rfl ?_); refine goesL_ (some 21) rfl rfl Tryd.func19 (by kernel_rfl) rfl #[.agg #[.int .i64 a0_0, .slice A0_1 l0_1.length c0_1, .slice A0_2 l0_2.length c0_2], .int .i64 a1] rfl mapz ?_; (with_reducible refine (dropperref05_live.calls kj3 a0_0 _ _ l0_1 _ _ l0_2 a1 t150 _ (cbz HR0_1) HC0_1.out (cbz HR0_2) HC0_2.out A16.out).mono ?_); rintro e w18 ⟨v151, rfl, ho0, hb⟩; refine ⟨_, rfl, ?_⟩; have HO152 := Aside0.mk (Kd.R_lower ho0 (below_size bel)); replace BK147 := Aside0.mk (blk_below (g := gb147) blkz hb); replace HB := Aside0.mk (below_step bel hb); (try clear hb); (try clear hb2); (try clear hk); (try clear hi); (try clear ho0)))
    go_loopg [8] kj3 (fun kq v8 w' => ∃ (x8_2 : Int), v8 = .int .i64 x8_2 ∧ Aside0 (dropperref05_Good.l0 kq l2 t150 x8_2 = some r) ∧ Aside0 (kq ≤ kj3) ∧ Aside0 (Kd.R (Kd.int .i64) 3 w' w.heap.size (fun _ => True) v151 t150) ∧ Aside0 (w'.heap[gb147]? = some (.cells #[.int .i64 a0_0, (.slice A0_1 l0_1.length c0_1), (.slice A0_2 l0_2.length c0_2)] 25 (0, 0))) ∧ Aside0 (Below w.heap.size w w'))
    case atStart => exact ⟨(0), rsz, H', ⟨Nat.le_refl _⟩, ⟨by (with_reducible repeat (first | apply Kd.R_alloc | apply Kd.R_drewN | apply Kd.R_drew)); exact HO152.out⟩, ⟨blkz⟩, ⟨bel⟩⟩
    case round =>
     clear H'
     (try clear c1); (try clear c2); (try clear p2); (try clear c6); (try clear c7); (try clear c15); (try clear hcz11_0); (try clear hcz11_1); (try clear hcz11_2); (try clear hcz13_0); (try clear hcz13_1); (try clear hcz13_2); (try clear hcz17_0); (try clear hcz17_1); (try clear hcz17_2); (try clear hcz9_0); (try clear hcz9_1); (try clear hcz9_2); (try clear hfz11_0); (try clear hfz11_1); (try clear hfz11_2); (try clear hfz13_0); (try clear hfz13_1); (try clear hfz13_2); (try clear hfz17_0); (try clear hfz17_1); (try clear hfz17_2); (try clear hfz9_0); (try clear hfz9_1); (try clear hfz9_2); (try clear p2)
     obtain ⟨x8_2, rfl, HA, HK2, HO_7, BK147, HB⟩ := hrel
     cases gk with
     | zero => exact absurd HA.out (by simp [dropperref05_Good.l0])
     | succ k2 =>
      have H := HA.out
      clear HA
      simp only [dropperref05_Good.l0] at H
      by_cases c19 : x8_2 < (l2.length : Int)
      ·
       rw [if_pos c19] at H
       have c19b0 : decide (x8_2 < (l2.length : Int)) = true := decide_eq_true c19
       clear c19
       by_cases c20 : 0 ≤ x8_2
       ·
        rw [if_pos c20] at H
        have c20b0 : decide (0 ≤ x8_2) = true := decide_eq_true c20
        clear c20
        by_cases c21 : 0 ≤ (rd l2 x8_2)
        ·
         rw [if_pos c21] at H
         have c21b0 : decide (0 ≤ (rd l2 x8_2)) = true := decide_eq_true c21
         clear c21
         by_cases c22 : (rd l2 x8_2) < (t150.length : Int)
         ·
          rw [if_pos c22] at H
          have c22b0 : decide ((rd l2 x8_2) < (t150.length : Int)) = true := decide_eq_true c22
          clear c22
          by_cases c23 : (rd t150 (rd l2 x8_2)) = 0
          ·
           rw [if_pos c23] at H
           have c23b0 : ((rd t150 (rd l2 x8_2)) == 0) = true := beq_iff_eq.mpr c23
           have c23b1 : ((rd t150 (rd l2 x8_2)) != 0) = false := bne_eq_false_iff_eq.mpr c23
           clear c23
           obtain rfl := Option.some.inj H
           have p153 : 0 ≤ (x8_2 : Int) := of_decide_eq_true asz
           have q153 : x8_2 < (l2.length : Int) := of_decide_eq_true asz
           obtain ⟨ad153, e153, hx153_0⟩ := Kd.at_int HR2.out x8_2 p153 q153
           cases e153
           replace hx153_0 := (HB.out.cell (World.block_lt_of_cell? w _ hx153_0)).trans hx153_0
           replace p153 := eq_true p153
           replace q153 := eq_true q153
           obtain ⟨Ao24, co24, eo24⟩ := Kd.R_slice HO_7.out
           subst eo24
           have p154 : 0 ≤ ((rd l2 x8_2) : Int) := of_decide_eq_true asz
           have q154 : (rd l2 x8_2) < (t150.length : Int) := of_decide_eq_true asz
           obtain ⟨ad154, e154, hx154_0⟩ := Kd.at_int (Kd.R_reads' HO_7.out).2.2 (rd l2 x8_2) p154 q154
           cases e154
           replace p154 := eq_true p154
           replace q154 := eq_true q154
           go_wp2
           go_ret
           exact ⟨ezz, bel⟩
          ·
           rw [if_neg c23] at H
           have c23b0 : ((rd t150 (rd l2 x8_2)) == 0) = false := beq_eq_false_iff_ne.mpr c23
           have c23b1 : ((rd t150 (rd l2 x8_2)) != 0) = true := bne_iff_ne.mpr c23
           have H' := Aside0.mk H
           clear H
           have p153 : 0 ≤ (x8_2 : Int) := of_decide_eq_true asz
           have q153 : x8_2 < (l2.length : Int) := of_decide_eq_true asz
           obtain ⟨ad153, e153, hx153_0⟩ := Kd.at_int HR2.out x8_2 p153 q153
           cases e153
           replace hx153_0 := (HB.out.cell (World.block_lt_of_cell? w _ hx153_0)).trans hx153_0
           replace p153 := eq_true p153
           replace q153 := eq_true q153
           obtain ⟨Ao25, co25, eo25⟩ := Kd.R_slice HO_7.out
           subst eo25
           have p154 : 0 ≤ ((rd l2 x8_2) : Int) := of_decide_eq_true asz
           have q154 : (rd l2 x8_2) < (t150.length : Int) := of_decide_eq_true asz
           obtain ⟨ad154, e154, hx154_0⟩ := Kd.at_int (Kd.R_reads' HO_7.out).2.2 (rd l2 x8_2) p154 q154
           cases e154
           replace p154 := eq_true p154
           replace q154 := eq_true q154
           go_wp2
           go_roundg k2
           case measure => have := HJ3.out; have := HK2.out; omega
           case rel => exact ⟨(wrap64 (x8_2 + 1)), rsz, H', ⟨by have := HJ3.out; have := HK2.out; omega⟩, ⟨by (with_reducible repeat (first | apply Kd.R_alloc | apply Kd.R_drewN | apply Kd.R_drew)); exact HO_7.out⟩, ⟨blkz⟩, ⟨bel⟩⟩
         ·
          rw [if_neg c22] at H
          exact absurd H (by simp)
        ·
         rw [if_neg c21] at H
         exact absurd H (by simp)
       ·
        rw [if_neg c20] at H
        exact absurd H (by simp)
      ·
       rw [if_neg c19] at H
       have c19b0 : decide (x8_2 < (l2.length : Int)) = false := decide_eq_false c19
       clear c19
       obtain rfl := Option.some.inj H
       go_wp2
       go_ret
       exact ⟨ezz, bel⟩

/-! ### feed_within: function 25 -/
def feed_within.f (a0 : Int) (a1 : Int) (a2 : Int) : Option (Bool) := if a0 ≤ a1 then (some (decide (a1 ≤ a2))) else (some false)
set_option maxHeartbeats 8000000 in
set_option maxRecDepth 100000 in
theorem feed_within.calls (a0 : Int) (a1 : Int) (a2 : Int) (r : Bool) (w : World) (h : feed_within.f a0 a1 a2 = some r) :
  Calls Tryd.prog 25 #[.int .i64 a0, .int .i64 a1, .int .i64 a2] w fun e w' => e = .returned (.bool r) ∧ Drawn0 w w' := by
 have H : (if a0 ≤ a1 then (some (decide (a1 ≤ a2))) else (some false)) = some r := h
 clear h
 by_cases c4 : a0 ≤ a1
 ·
  rw [if_pos c4] at H
  have c4b0 : decide (a0 ≤ a1) = true := decide_eq_true c4
  clear c4
  obtain rfl := Option.some.inj H
  go_enter Tryd.func25, Tryd.ntmps25
  go_wp2
  go_ret
  exact ⟨by first | rfl | (simp; done) | (simp [*]; done), drz⟩
 ·
  rw [if_neg c4] at H
  have c4b0 : decide (a0 ≤ a1) = false := decide_eq_false c4
  clear c4
  obtain rfl := Option.some.inj H
  go_enter Tryd.func25, Tryd.ntmps25
  go_wp2
  go_ret
  exact ⟨by first | rfl | (simp; done) | (simp [*]; done), drz⟩

/-! ### feed_grid_all: function 26 -/
def feed_grid_all.f (a0_0 : Int) (l0_1 : List (S47)) (l0_2 : List (S49)) : Option (Int) := some (shl .i64 1 (l0_1.length : Int))
set_option maxHeartbeats 8000000 in
set_option maxRecDepth 100000 in
theorem feed_grid_all.calls (a0_0 : Int) (A0_1 : Option Addr) (c0_1 : Nat) (l0_1 : List (S47)) (A0_2 : Option Addr) (c0_2 : Nat) (l0_2 : List (S49)) (r : Int) (w : World) (hr0_1 : Kd.C k47 w A0_1 l0_1.length l0_1) (hc0_1 : l0_1.length ≤ c0_1) (hr0_2 : Kd.C k49 w A0_2 l0_2.length l0_2) (hc0_2 : l0_2.length ≤ c0_2) (h : feed_grid_all.f a0_0 l0_1 l0_2 = some r) :
  Calls Tryd.prog 26 #[.agg #[.int .i64 a0_0, .slice A0_1 l0_1.length c0_1, .slice A0_2 l0_2.length c0_2]] w fun e w' => e = .returned (.int .i64 r) ∧ Below w.heap.size w w' := by
 have hu54 := Tryd.underlying54
 have HR0_1 := Aside0.mk hr0_1
 have HC0_1 := Aside0.mk hc0_1
 clear hr0_1 hc0_1
 have HR0_2 := Aside0.mk hr0_2
 have HC0_2 := Aside0.mk hc0_2
 clear hr0_2 hc0_2
 have HB := Aside0.mk (Below.refl w.heap.size w)
 have H : (some (shl .i64 1 (l0_1.length : Int))) = some r := h
 clear h
 obtain ⟨ji2, hji2⟩ : ∃ j_ : Int, (shl .i64 1 (l0_1.length : Int)) = j_ := ⟨_, rfl⟩
 replace H : (some ji2) = some r := by first | (rw [hji2] at H; exact H) | (simp only [hji2] at H ⊢; exact H)
 have hji2_ : (IntKind.i64.wrap (1 * 2 ^ min (l0_1.length : Int).toNat 64)) = ji2 := hji2
 have hji2z : (l0_1.length : Int) ≤ 64 → (IntKind.i64.wrap (1 * 2 ^ (l0_1.length : Int).toNat)) = ji2 := shl_small hji2
 have hji2p : (IntKind.i64.wrap (1 * 2 ^ min l0_1.length 64)) = ji2 := hji2_
 have hji2q : (l0_1.length : Int) ≤ 64 → (IntKind.i64.wrap (1 * 2 ^ l0_1.length)) = ji2 := hji2z
 have hji2r : (IntKind.i64.wrap (2 ^ min l0_1.length 64)) = ji2 := by have h_ := hji2p; rw [Int.one_mul] at h_; exact h_
 have hji2s : (l0_1.length : Int) ≤ 64 → (IntKind.i64.wrap (2 ^ l0_1.length)) = ji2 := fun hle_ => by have h_ := hji2q hle_; rw [Int.one_mul] at h_; exact h_
 have hji2u : (IntKind.i64.wrap (2 ^ min (l0_1.length : Int).toNat 64)) = ji2 := by have h_ := hji2_; rw [Int.one_mul] at h_; exact h_
 have hji2v : (l0_1.length : Int) ≤ 64 → (IntKind.i64.wrap (2 ^ (l0_1.length : Int).toNat)) = ji2 := fun hle_ => by have h_ := hji2z hle_; rw [Int.one_mul] at h_; exact h_
 have hji2y : (wrap64 (1 * 2 ^ min (l0_1.length : Int).toNat 64)) = ji2 := (i64_w _).symm.trans hji2_
 have hji2x : (l0_1.length : Int) ≤ 64 → (wrap64 (1 * 2 ^ (l0_1.length : Int).toNat)) = ji2 := fun h_ => (i64_w _).symm.trans (hji2z h_)
 obtain rfl := Option.some.inj H
 go_enter Tryd.func26, Tryd.ntmps26
 go_wp2_with (first | ((with_reducible refine gate_dst (N := 1) rfl ?_); refine box_event ?hg (N := 1) ?hd (cs := #[.int .i64 a0_0, .slice A0_1 l0_1.length c0_1, .slice A0_2 l0_2.length c0_2]) (t := 54) ?hr ?_; (case hd => rfl); (case hg => rfl); (case hr => first | (go_simp; done) | (go_simp; rfl)); intro gb155 hg w3 hbox hb; have BK155 := Aside0.mk (hbox); have GW155 := bsz (w := w) hg; have GE155 := GW155; replace HB := Aside0.mk (below_step bel hb); clear hb hbox hg; obtain ⟨hcz4_0, hcz4_1, hcz4_2⟩ := bc3 BK155.out))
 go_ret
 exact ⟨by first | rfl | (simp [errW_none, errW_some] <;> rfl) | (simp only [← hji2]; first | rfl | (simp [errW_none, errW_some] <;> rfl)) | (simp [*, errW_none, errW_some] <;> rfl), bel⟩

/-! ### slices_ContainsFunc_api_Switch_api_Switch: function 48 -/
theorem slices_ContainsFunc_api_Switch_api_Switch.rd_get (l : List S47) (x : Int) (h0 : 0 ≤ x) (h1 : x < (l.length : Int)) : ∃ h : x.toNat < l.length, rd_T47 l x = l[x.toNat] := by
 have h : x.toNat < l.length := by omega
 exact ⟨h, by simp [rd_T47, List.getD_eq_getElem?_getD, h]⟩
set_option maxHeartbeats 2000000 in
set_option maxRecDepth 100000 in
theorem slices_ContainsFunc_api_Switch_api_Switch.index (c : Nat) (cs : Array Value) (p : S47 → Bool) (A0 : Option Addr) (c0 : Nat) (l0 : List S47) (w : World) (hr0 : Kd.C k47 w A0 l0.length l0) (hc0 : l0.length ≤ c0)
  (he : ∀ (vs : Array Value) (W : World), (callFunc c vs).run Tryd.prog W = .ok (.enter c vs) W)
  (hf : ∀ (x : S47), x ∈ l0 → ∀ (W : World), Below w.heap.size w W → Calls Tryd.prog c (#[.agg #[.int .i64 x.f0, .int .i64 x.f1]] ++ cs) W fun e w' => e = .returned (.bool (p x)) ∧ Below W.heap.size W w') :
  Calls Tryd.prog 75 #[.slice A0 l0.length c0, .func (.func c) #[] cs] w fun e w' => e = .returned (.int .i64 (Idx.idxFrom p l0)) ∧ Below w.heap.size w w' := by
 have hl : l0.length ≤ 9223372036854775807 := hr0.2.1
 have HR := Aside0.mk hr0
 have HF := Aside0.mk hf
 clear hr0 hf
 have hu := Tryd.underlying47
 go_enter Tryd.func75, Tryd.ntmps75
 go_wp2
 go_loopg [5, 8] l0.length (fun kq v5 v8 w' => ∃ x : Int, v8 = .int .i64 x ∧ Aside0 (0 ≤ x ∧ x ≤ l0.length ∧ ∀ j (h : j < l0.length), (j : Int) < x → p l0[j] = false) ∧ Aside0 (kq = l0.length - x.toNat) ∧ Aside0 (Below w.heap.size w w'))
 case atStart => exact ⟨0, rfl, ⟨by omega, by omega, fun _ _ h => by omega⟩, ⟨rfl⟩, ⟨Below.refl _ _⟩⟩
 case round =>
  obtain ⟨x, rfl, HI, HK, HB⟩ := hrel
  by_cases hlt : x < (l0.length : Int)
  ·
   have h1 : decide (x < (l0.length : Int)) = true := decide_eq_true hlt
   have p1 : 0 ≤ x := HI.out.1
   have HR0 := Aside0.mk (Kd.C_below HR.out HB.out)
   obtain ⟨ad, e1, hx0, hx1⟩ := at_T47 HR0.out x p1 hlt
   cases e1
   have HX := Aside0.mk (And.intro p1 hlt)
   have HM : Aside0 ((rd_T47 l0 x) ∈ l0) := ⟨by obtain ⟨h2, h3⟩ := slices_ContainsFunc_api_Switch_api_Switch.rd_get l0 x p1 hlt; rw [h3]; exact List.getElem_mem h2⟩
   replace p1 := eq_true p1
   replace hlt := eq_true hlt
   by_cases hp : p (rd_T47 l0 x) = true
   ·
    go_wp2_with (go_simp; with_reducible refine (HF.out (rd_T47 l0 x) HM.out _ HB.out).mono ?_; rintro e w' ⟨rfl, hb⟩; have HB2 := Aside0.mk hb; clear hb)
    go_ret
    obtain ⟨h2, h3⟩ := slices_ContainsFunc_api_Switch_api_Switch.rd_get l0 x HX.out.1 HX.out.2
    rw [h3] at hp
    refine ⟨?_, below_step HB.out HB2.out⟩
    rw [Idx.idxFrom_at h2 hp (fun j hj hl => HI.out.2.2 j hj (by omega)), Int.toNat_of_nonneg HX.out.1]; rfl
   ·
    replace hp := Bool.eq_false_iff.mpr hp
    go_wp2_with (go_simp; with_reducible refine (HF.out (rd_T47 l0 x) HM.out _ HB.out).mono ?_; rintro e w' ⟨rfl, hb⟩; have HB2 := Aside0.mk hb; clear hb)
    go_roundg (l0.length - (x + 1).toNat)
    case measure => have := HX.out; have := HK.out; omega
    case rel =>
     obtain ⟨h2, h3⟩ := slices_ContainsFunc_api_Switch_api_Switch.rd_get l0 x HX.out.1 HX.out.2
     have hw : wrap64 (x + 1) = x + 1 := by unfold wrap64; have := HX.out; omega
     refine ⟨x + 1, by first | rfl | rw [hw], ⟨by have := HX.out; omega, by have := HX.out; omega, fun j hj hl => ?_⟩, ⟨rfl⟩, ⟨below_step HB.out HB2.out⟩⟩
     by_cases hjx : (j : Int) < x
     ·
      exact HI.out.2.2 j hj hjx
     ·
      have : j = x.toNat := by omega
      subst this
      rw [← h3]; exact hp
  ·
   have h1 : decide (x < (l0.length : Int)) = false := decide_eq_false hlt
   go_wp2
   go_ret
   refine ⟨?_, HB.out⟩
   rw [Idx.idxFrom_none (fun j hj hl => HI.out.2.2 j hj (by omega))]; rfl
theorem slices_ContainsFunc_api_Switch_api_Switch.contains (c : Nat) (cs : Array Value) (p : S47 → Bool) (A0 : Option Addr) (c0 : Nat) (l0 : List S47) (w : World) (hr0 : Kd.C k47 w A0 l0.length l0) (hc0 : l0.length ≤ c0)
  (he : ∀ (vs : Array Value) (W : World), (callFunc c vs).run Tryd.prog W = .ok (.enter c vs) W)
  (hf : ∀ (x : S47), x ∈ l0 → ∀ (W : World), Below w.heap.size w W → Calls Tryd.prog c (#[.agg #[.int .i64 x.f0, .int .i64 x.f1]] ++ cs) W fun e w' => e = .returned (.bool (p x)) ∧ Below W.heap.size W w') :
  Calls Tryd.prog 48 #[.slice A0 l0.length c0, .func (.func c) #[] cs] w fun e w' => e = .returned (.bool (l0.any p)) ∧ Below w.heap.size w w' := by
 have HR0 := Aside0.mk hr0
 have HF := Aside0.mk hf
 clear hr0 hf
 have hz := Aside0.mk (Idx.idx_ge p l0)
 go_enter Tryd.func48, Tryd.ntmps48
 go_wp2_with (go_at_call 75; refine (slices_ContainsFunc_api_Switch_api_Switch.index c cs p _ _ l0 _ HR0.out hc0 he HF.out).mono ?_; rintro e w' ⟨rfl, hb⟩; have HB := Aside0.mk hb; clear hb)
 go_ret
 exact ⟨by rw [← hz.out]; rfl, HB.out⟩

/-! ### slices_ContainsFunc_api_Feeder_api_Feeder: function 50 -/
theorem slices_ContainsFunc_api_Feeder_api_Feeder.rd_get (l : List S49) (x : Int) (h0 : 0 ≤ x) (h1 : x < (l.length : Int)) : ∃ h : x.toNat < l.length, rd_T49 l x = l[x.toNat] := by
 have h : x.toNat < l.length := by omega
 exact ⟨h, by simp [rd_T49, List.getD_eq_getElem?_getD, h]⟩
set_option maxHeartbeats 2000000 in
set_option maxRecDepth 100000 in
theorem slices_ContainsFunc_api_Feeder_api_Feeder.index (c : Nat) (cs : Array Value) (p : S49 → Bool) (A0 : Option Addr) (c0 : Nat) (l0 : List S49) (w : World) (hr0 : Kd.C k49 w A0 l0.length l0) (hc0 : l0.length ≤ c0)
  (he : ∀ (vs : Array Value) (W : World), (callFunc c vs).run Tryd.prog W = .ok (.enter c vs) W)
  (hf : ∀ (x : S49), x ∈ l0 → ∀ (W : World), Below w.heap.size w W → Calls Tryd.prog c (#[.agg #[.int .i64 x.f0, .int .i64 x.f1]] ++ cs) W fun e w' => e = .returned (.bool (p x)) ∧ Below W.heap.size W w') :
  Calls Tryd.prog 76 #[.slice A0 l0.length c0, .func (.func c) #[] cs] w fun e w' => e = .returned (.int .i64 (Idx.idxFrom p l0)) ∧ Below w.heap.size w w' := by
 have hl : l0.length ≤ 9223372036854775807 := hr0.2.1
 have HR := Aside0.mk hr0
 have HF := Aside0.mk hf
 clear hr0 hf
 have hu := Tryd.underlying49
 go_enter Tryd.func76, Tryd.ntmps76
 go_wp2
 go_loopg [5, 8] l0.length (fun kq v5 v8 w' => ∃ x : Int, v8 = .int .i64 x ∧ Aside0 (0 ≤ x ∧ x ≤ l0.length ∧ ∀ j (h : j < l0.length), (j : Int) < x → p l0[j] = false) ∧ Aside0 (kq = l0.length - x.toNat) ∧ Aside0 (Below w.heap.size w w'))
 case atStart => exact ⟨0, rfl, ⟨by omega, by omega, fun _ _ h => by omega⟩, ⟨rfl⟩, ⟨Below.refl _ _⟩⟩
 case round =>
  obtain ⟨x, rfl, HI, HK, HB⟩ := hrel
  by_cases hlt : x < (l0.length : Int)
  ·
   have h1 : decide (x < (l0.length : Int)) = true := decide_eq_true hlt
   have p1 : 0 ≤ x := HI.out.1
   have HR0 := Aside0.mk (Kd.C_below HR.out HB.out)
   obtain ⟨ad, e1, hx0, hx1⟩ := at_T49 HR0.out x p1 hlt
   cases e1
   have HX := Aside0.mk (And.intro p1 hlt)
   have HM : Aside0 ((rd_T49 l0 x) ∈ l0) := ⟨by obtain ⟨h2, h3⟩ := slices_ContainsFunc_api_Feeder_api_Feeder.rd_get l0 x p1 hlt; rw [h3]; exact List.getElem_mem h2⟩
   replace p1 := eq_true p1
   replace hlt := eq_true hlt
   by_cases hp : p (rd_T49 l0 x) = true
   ·
    go_wp2_with (go_simp; with_reducible refine (HF.out (rd_T49 l0 x) HM.out _ HB.out).mono ?_; rintro e w' ⟨rfl, hb⟩; have HB2 := Aside0.mk hb; clear hb)
    go_ret
    obtain ⟨h2, h3⟩ := slices_ContainsFunc_api_Feeder_api_Feeder.rd_get l0 x HX.out.1 HX.out.2
    rw [h3] at hp
    refine ⟨?_, below_step HB.out HB2.out⟩
    rw [Idx.idxFrom_at h2 hp (fun j hj hl => HI.out.2.2 j hj (by omega)), Int.toNat_of_nonneg HX.out.1]; rfl
   ·
    replace hp := Bool.eq_false_iff.mpr hp
    go_wp2_with (go_simp; with_reducible refine (HF.out (rd_T49 l0 x) HM.out _ HB.out).mono ?_; rintro e w' ⟨rfl, hb⟩; have HB2 := Aside0.mk hb; clear hb)
    go_roundg (l0.length - (x + 1).toNat)
    case measure => have := HX.out; have := HK.out; omega
    case rel =>
     obtain ⟨h2, h3⟩ := slices_ContainsFunc_api_Feeder_api_Feeder.rd_get l0 x HX.out.1 HX.out.2
     have hw : wrap64 (x + 1) = x + 1 := by unfold wrap64; have := HX.out; omega
     refine ⟨x + 1, by first | rfl | rw [hw], ⟨by have := HX.out; omega, by have := HX.out; omega, fun j hj hl => ?_⟩, ⟨rfl⟩, ⟨below_step HB.out HB2.out⟩⟩
     by_cases hjx : (j : Int) < x
     ·
      exact HI.out.2.2 j hj hjx
     ·
      have : j = x.toNat := by omega
      subst this
      rw [← h3]; exact hp
  ·
   have h1 : decide (x < (l0.length : Int)) = false := decide_eq_false hlt
   go_wp2
   go_ret
   refine ⟨?_, HB.out⟩
   rw [Idx.idxFrom_none (fun j hj hl => HI.out.2.2 j hj (by omega))]; rfl
theorem slices_ContainsFunc_api_Feeder_api_Feeder.contains (c : Nat) (cs : Array Value) (p : S49 → Bool) (A0 : Option Addr) (c0 : Nat) (l0 : List S49) (w : World) (hr0 : Kd.C k49 w A0 l0.length l0) (hc0 : l0.length ≤ c0)
  (he : ∀ (vs : Array Value) (W : World), (callFunc c vs).run Tryd.prog W = .ok (.enter c vs) W)
  (hf : ∀ (x : S49), x ∈ l0 → ∀ (W : World), Below w.heap.size w W → Calls Tryd.prog c (#[.agg #[.int .i64 x.f0, .int .i64 x.f1]] ++ cs) W fun e w' => e = .returned (.bool (p x)) ∧ Below W.heap.size W w') :
  Calls Tryd.prog 50 #[.slice A0 l0.length c0, .func (.func c) #[] cs] w fun e w' => e = .returned (.bool (l0.any p)) ∧ Below w.heap.size w w' := by
 have HR0 := Aside0.mk hr0
 have HF := Aside0.mk hf
 clear hr0 hf
 have hz := Aside0.mk (Idx.idx_ge p l0)
 go_enter Tryd.func50, Tryd.ntmps50
 go_wp2_with (go_at_call 76; refine (slices_ContainsFunc_api_Feeder_api_Feeder.index c cs p _ _ l0 _ HR0.out hc0 he HF.out).mono ?_; rintro e w' ⟨rfl, hb⟩; have HB := Aside0.mk hb; clear hb)
 go_ret
 exact ⟨by rw [← hz.out]; rfl, HB.out⟩

/-! ### feed_Valid: function 27 -/
theorem feed_Valid.within_calls (a b c : Int) (w : World) :
  Calls Tryd.prog 25 #[.int .i64 a, .int .i64 b, .int .i64 c] w fun e w' => e = .returned (.bool (decide (a ≤ b) && decide (b ≤ c))) ∧ Drawn0 w w' := by
 by_cases h1 : a ≤ b
 ·
  have h1' : decide (a ≤ b) = true := decide_eq_true h1
  go_enter Tryd.func25, Tryd.ntmps25
  go_wp2
  go_ret
  exact ⟨by simp [h1], Drawn0.refl _⟩
 ·
  have h1' : decide (a ≤ b) = false := decide_eq_false h1
  go_enter Tryd.func25, Tryd.ntmps25
  go_wp2
  go_ret
  exact ⟨by simp [h1], Drawn0.refl _⟩
def feed_Valid.bad1 (n : Int) (x : S47) : Bool := !(decide (0 ≤ x.f0) && decide (x.f0 ≤ wrap64 (n - 1))) || !(decide (0 ≤ x.f1) && decide (x.f1 ≤ wrap64 (n - 1))) || (x.f0 == x.f1)
set_option maxHeartbeats 2000000 in
set_option maxRecDepth 100000 in
theorem feed_Valid.clos1 (n : Int) (g : Nat) (x : S47) (w : World) (hcap : w.cell? ⟨g, 0, none⟩ = some (.int .i64 n)) :
  Calls Tryd.prog 49 #[.agg #[.int .i64 x.f0, .int .i64 x.f1], .pointer (some ⟨g, 0, none⟩)] w fun e w' => e = .returned (.bool (feed_Valid.bad1 n x)) ∧ Below w.heap.size w w' := by
 have hu0 := Tryd.underlying47
 have hB : ∀ o n, Aside0 (Below w.heap.size w ((w.alloc o).drewN n)) := fun o n => ⟨pw_below_drewN (below_alloc (Below.refl _ _) o) n⟩
 have hB0 : ∀ o, Aside0 (Below w.heap.size w (w.alloc o)) := fun o => ⟨below_alloc (Below.refl _ _) o⟩
 have hg : g < w.heap.size := by
  unfold World.cell? at hcap
  split at hcap
  ·
   rename_i h; exact (Array.getElem?_eq_some_iff.1 h).1
  ·
   cases hcap
 have hcap2 : ∀ o, (w.alloc o).cell? ⟨g, 0, none⟩ = some (.int .i64 n) := fun o => by rw [← hcap]; exact ((below_alloc (Below.refl w.heap.size w) o).cell hg)
 by_cases h0 : (decide (0 ≤ x.f0) && decide (x.f0 ≤ wrap64 (n - 1))) = true
 ·
  skip
  by_cases h1 : (decide (0 ≤ x.f1) && decide (x.f1 ≤ wrap64 (n - 1))) = true
  ·
   skip
   have hE : Aside0 ((feed_Valid.bad1 n x) = (x.f0 == x.f1)) := ⟨by simp only [feed_Valid.bad1, h0, h1, Bool.not_true, Bool.false_or]⟩
   have H0 := Aside0.mk h0
   clear h0
   have H1 := Aside0.mk h1
   clear h1
   go_enter Tryd.func49, Tryd.ntmps49
   go_wp2_with (first | (go_at_call 25; (with_reducible refine (feed_Valid.within_calls 0 (x.f0) (wrap64 (n - 1)) _).mono ?_); rintro e w' ⟨rfl, ⟨nd_, rfl⟩⟩; rw [H0.out]) | (go_at_call 25; (with_reducible refine (feed_Valid.within_calls 0 (x.f1) (wrap64 (n - 1)) _).mono ?_); rintro e w' ⟨rfl, ⟨nd_, rfl⟩⟩; rw [H1.out]))
   go_ret
   exact ⟨by rw [hE.out]; rfl, by repeat (first | exact (hB _ _).out | exact (hB0 _).out | apply pw_below_drewN)⟩
  ·
   replace h1 := Bool.eq_false_iff.mpr h1
   have hE : Aside0 ((feed_Valid.bad1 n x) = true) := ⟨by simp only [feed_Valid.bad1, h0, h1, Bool.not_true, Bool.not_false, Bool.false_or, Bool.true_or]⟩
   have H0 := Aside0.mk h0
   clear h0
   have H1 := Aside0.mk h1
   clear h1
   go_enter Tryd.func49, Tryd.ntmps49
   go_wp2_with (first | (go_at_call 25; (with_reducible refine (feed_Valid.within_calls 0 (x.f0) (wrap64 (n - 1)) _).mono ?_); rintro e w' ⟨rfl, ⟨nd_, rfl⟩⟩; rw [H0.out]) | (go_at_call 25; (with_reducible refine (feed_Valid.within_calls 0 (x.f1) (wrap64 (n - 1)) _).mono ?_); rintro e w' ⟨rfl, ⟨nd_, rfl⟩⟩; rw [H1.out]))
   go_ret
   exact ⟨by rw [hE.out]; rfl, by repeat (first | exact (hB _ _).out | exact (hB0 _).out | apply pw_below_drewN)⟩
 ·
  replace h0 := Bool.eq_false_iff.mpr h0
  have hE : Aside0 ((feed_Valid.bad1 n x) = true) := ⟨by simp only [feed_Valid.bad1, h0, Bool.not_true, Bool.not_false, Bool.false_or, Bool.true_or]⟩
  have H0 := Aside0.mk h0
  clear h0
  go_enter Tryd.func49, Tryd.ntmps49
  go_wp2_with (first | (go_at_call 25; (with_reducible refine (feed_Valid.within_calls 0 (x.f0) (wrap64 (n - 1)) _).mono ?_); rintro e w' ⟨rfl, ⟨nd_, rfl⟩⟩; rw [H0.out]))
  go_ret
  exact ⟨by rw [hE.out]; rfl, by repeat (first | exact (hB _ _).out | exact (hB0 _).out | apply pw_below_drewN)⟩
def feed_Valid.bad2 (n : Int) (x : S49) : Bool := !(decide (0 ≤ x.f0) && decide (x.f0 ≤ wrap64 (n - 1))) || !(decide (1 ≤ x.f1) && decide (x.f1 ≤ 3))
set_option maxHeartbeats 2000000 in
set_option maxRecDepth 100000 in
theorem feed_Valid.clos2 (n : Int) (g : Nat) (x : S49) (w : World) (hcap : w.cell? ⟨g, 0, none⟩ = some (.int .i64 n)) :
  Calls Tryd.prog 51 #[.agg #[.int .i64 x.f0, .int .i64 x.f1], .pointer (some ⟨g, 0, none⟩)] w fun e w' => e = .returned (.bool (feed_Valid.bad2 n x)) ∧ Below w.heap.size w w' := by
 have hu0 := Tryd.underlying49
 have hB : ∀ o n, Aside0 (Below w.heap.size w ((w.alloc o).drewN n)) := fun o n => ⟨pw_below_drewN (below_alloc (Below.refl _ _) o) n⟩
 have hB0 : ∀ o, Aside0 (Below w.heap.size w (w.alloc o)) := fun o => ⟨below_alloc (Below.refl _ _) o⟩
 have hg : g < w.heap.size := by
  unfold World.cell? at hcap
  split at hcap
  ·
   rename_i h; exact (Array.getElem?_eq_some_iff.1 h).1
  ·
   cases hcap
 have hcap2 : ∀ o, (w.alloc o).cell? ⟨g, 0, none⟩ = some (.int .i64 n) := fun o => by rw [← hcap]; exact ((below_alloc (Below.refl w.heap.size w) o).cell hg)
 by_cases h0 : (decide (0 ≤ x.f0) && decide (x.f0 ≤ wrap64 (n - 1))) = true
 ·
  skip
  by_cases h1 : (decide (1 ≤ x.f1) && decide (x.f1 ≤ 3)) = true
  ·
   skip
   have hE : Aside0 ((feed_Valid.bad2 n x) = false) := ⟨by simp only [feed_Valid.bad2, h0, h1, Bool.not_true, Bool.false_or]⟩
   have H0 := Aside0.mk h0
   clear h0
   have H1 := Aside0.mk h1
   clear h1
   go_enter Tryd.func51, Tryd.ntmps51
   go_wp2_with (first | (go_at_call 25; (with_reducible refine (feed_Valid.within_calls 0 (x.f0) (wrap64 (n - 1)) _).mono ?_); rintro e w' ⟨rfl, ⟨nd_, rfl⟩⟩; rw [H0.out]) | (go_at_call 25; (with_reducible refine (feed_Valid.within_calls 1 (x.f1) (3) _).mono ?_); rintro e w' ⟨rfl, ⟨nd_, rfl⟩⟩; rw [H1.out]))
   go_ret
   exact ⟨by rw [hE.out]; rfl, by repeat (first | exact (hB _ _).out | exact (hB0 _).out | apply pw_below_drewN)⟩
  ·
   replace h1 := Bool.eq_false_iff.mpr h1
   have hE : Aside0 ((feed_Valid.bad2 n x) = true) := ⟨by simp only [feed_Valid.bad2, h0, h1, Bool.not_true, Bool.not_false, Bool.false_or, Bool.true_or]⟩
   have H0 := Aside0.mk h0
   clear h0
   have H1 := Aside0.mk h1
   clear h1
   go_enter Tryd.func51, Tryd.ntmps51
   go_wp2_with (first | (go_at_call 25; (with_reducible refine (feed_Valid.within_calls 0 (x.f0) (wrap64 (n - 1)) _).mono ?_); rintro e w' ⟨rfl, ⟨nd_, rfl⟩⟩; rw [H0.out]) | (go_at_call 25; (with_reducible refine (feed_Valid.within_calls 1 (x.f1) (3) _).mono ?_); rintro e w' ⟨rfl, ⟨nd_, rfl⟩⟩; rw [H1.out]))
   go_ret
   exact ⟨by rw [hE.out]; rfl, by repeat (first | exact (hB _ _).out | exact (hB0 _).out | apply pw_below_drewN)⟩
 ·
  replace h0 := Bool.eq_false_iff.mpr h0
  have hE : Aside0 ((feed_Valid.bad2 n x) = true) := ⟨by simp only [feed_Valid.bad2, h0, Bool.not_true, Bool.not_false, Bool.false_or, Bool.true_or]⟩
  have H0 := Aside0.mk h0
  clear h0
  go_enter Tryd.func51, Tryd.ntmps51
  go_wp2_with (first | (go_at_call 25; (with_reducible refine (feed_Valid.within_calls 0 (x.f0) (wrap64 (n - 1)) _).mono ?_); rintro e w' ⟨rfl, ⟨nd_, rfl⟩⟩; rw [H0.out]))
  go_ret
  exact ⟨by rw [hE.out]; rfl, by repeat (first | exact (hB _ _).out | exact (hB0 _).out | apply pw_below_drewN)⟩

def feed_Valid.f (a0_0 : Int) (l0_1 : List S47) (l0_2 : List S49) : Option Bool := some ((decide (1 ≤ a0_0) && decide (a0_0 ≤ 8)) && (decide ((l0_1.length : Int) ≤ 10) && (decide ((l0_2.length : Int) ≤ 6) && (!(l0_1.any (feed_Valid.bad1 a0_0)) && !(l0_2.any (feed_Valid.bad2 a0_0))))))
theorem feed_Valid.enter1 (vs : Array Value) (W : World) : (callFunc 49 vs).run Tryd.prog W = .ok (.enter 49 vs) W := enters_ Tryd.func49 (by kernel_rfl) (by kernel_rfl) vs W
theorem feed_Valid.enter2 (vs : Array Value) (W : World) : (callFunc 51 vs).run Tryd.prog W = .ok (.enter 51 vs) W := enters_ Tryd.func51 (by kernel_rfl) (by kernel_rfl) vs W
set_option maxHeartbeats 4000000 in
set_option maxRecDepth 100000 in
theorem feed_Valid.calls (a0_0 : Int) (A0_1 : Option Addr) (c0_1 : Nat) (l0_1 : List S47) (A0_2 : Option Addr) (c0_2 : Nat) (l0_2 : List S49) (r : Bool) (w : World) (hr0_1 : Kd.C k47 w A0_1 l0_1.length l0_1) (hc0_1 : l0_1.length ≤ c0_1) (hr0_2 : Kd.C k49 w A0_2 l0_2.length l0_2) (hc0_2 : l0_2.length ≤ c0_2) (h : feed_Valid.f a0_0 l0_1 l0_2 = some r) :
  Calls Tryd.prog 27 #[.agg #[.int .i64 a0_0, .slice A0_1 l0_1.length c0_1, .slice A0_2 l0_2.length c0_2]] w fun e w' => e = .returned (.bool r) ∧ Below w.heap.size w w' := by
 have hu := Tryd.underlying25
 have hl1 : l0_1.length ≤ 9223372036854775807 := hr0_1.2.1
 have hl2 : l0_2.length ≤ 9223372036854775807 := hr0_2.2.1
 have HR1 := Aside0.mk hr0_1
 have HR2 := Aside0.mk hr0_2
 clear hr0_1 hr0_2
 have hB0 : Aside0 (Below w.heap.size w (w.alloc (.cells #[.int .i64 a0_0, .slice A0_1 l0_1.length c0_1, .slice A0_2 l0_2.length c0_2] 25))) := ⟨below_alloc (Below.refl _ _) _⟩
 have hB1 : Aside0 (Below (w.alloc (.cells #[.int .i64 a0_0, .slice A0_1 l0_1.length c0_1, .slice A0_2 l0_2.length c0_2] 25)).heap.size (w.alloc (.cells #[.int .i64 a0_0, .slice A0_1 l0_1.length c0_1, .slice A0_2 l0_2.length c0_2] 25)) (w.alloc (.cells #[.int .i64 a0_0, .slice A0_1 l0_1.length c0_1, .slice A0_2 l0_2.length c0_2] 25))) := ⟨Below.refl _ _⟩
 have hcell : Aside0 (∀ W, Below (w.alloc (.cells #[.int .i64 a0_0, .slice A0_1 l0_1.length c0_1, .slice A0_2 l0_2.length c0_2] 25)).heap.size (w.alloc (.cells #[.int .i64 a0_0, .slice A0_1 l0_1.length c0_1, .slice A0_2 l0_2.length c0_2] 25)) W → W.cell? ⟨w.heap.size, 0, none⟩ = some (.int .i64 a0_0) ∧ W.cell? ⟨w.heap.size, 2, none⟩ = some (.slice A0_2 l0_2.length c0_2)) := ⟨fun W hb => by
  rw [hb.cell (by show w.heap.size < (w.heap.push _).size; rw [Array.size_push]; omega), hb.cell (by show w.heap.size < (w.heap.push _).size; rw [Array.size_push]; omega), World.cell?_alloc_at _ _ _ _ rfl, World.cell?_alloc_at _ _ _ _ rfl]; exact ⟨rfl, rfl⟩⟩
 obtain rfl := Option.some.inj h
 clear h
 by_cases h0 : (decide (1 ≤ a0_0) && decide (a0_0 ≤ 8)) = true
 ·
  rw [h0, Bool.true_and]
  have H0 := Aside0.mk h0
  clear h0
  by_cases h1 : (l0_1.length : Int) ≤ 10
  ·
   rw [decide_eq_true h1, Bool.true_and]
   have k1 : decide ((l0_1.length : Int) > 10) = false := decide_eq_false (by omega)
   by_cases h2 : (l0_2.length : Int) ≤ 6
   ·
    rw [decide_eq_true h2, Bool.true_and]
    have k2 : decide ((l0_2.length : Int) > 6) = false := decide_eq_false (by omega)
    clear h1 h2
    by_cases h3 : l0_1.any (feed_Valid.bad1 a0_0) = true
    ·
     rw [h3]
     have H3 := Aside0.mk h3
     clear h3
     go_enter Tryd.func27, Tryd.ntmps27
     go_wp2_with (first
      | (go_at_call 25; (with_reducible refine (feed_Valid.within_calls 1 a0_0 8 _).mono ?_); rintro e w' ⟨rfl, ⟨n, rfl⟩⟩; rw [H0.out])
      | (go_at_call 48; (refine (slices_ContainsFunc_api_Switch_api_Switch.contains 49 #[.pointer (some ⟨w.heap.size, 0, none⟩)] (feed_Valid.bad1 a0_0) A0_1 c0_1 l0_1 _ (Kd.C_drewN (Kd.C_below HR1.out hB0.out) _) hc0_1 feed_Valid.enter1 (fun x _ W hb => feed_Valid.clos1 a0_0 w.heap.size x W (hcell.out W (below_step (pw_below_drewN hB1.out _) hb)).1)).mono ?_); rintro e w' ⟨rfl, hb⟩; have HB := Aside0.mk (below_step (pw_below_drewN hB0.out _) hb); clear hb; rw [H3.out]))
     go_ret
     exact ⟨rfl, HB.out⟩
    ·
     replace h3 := Bool.eq_false_iff.mpr h3
     rw [h3]
     have H3 := Aside0.mk h3
     clear h3
     go_enter Tryd.func27, Tryd.ntmps27
     go_wp2_with (first
      | (go_at_call 25; (with_reducible refine (feed_Valid.within_calls 1 a0_0 8 _).mono ?_); rintro e w' ⟨rfl, ⟨n, rfl⟩⟩; rw [H0.out])
      | (go_at_call 48; (refine (slices_ContainsFunc_api_Switch_api_Switch.contains 49 #[.pointer (some ⟨w.heap.size, 0, none⟩)] (feed_Valid.bad1 a0_0) A0_1 c0_1 l0_1 _ (Kd.C_drewN (Kd.C_below HR1.out hB0.out) _) hc0_1 feed_Valid.enter1 (fun x _ W hb => feed_Valid.clos1 a0_0 w.heap.size x W (hcell.out W (below_step (pw_below_drewN hB1.out _) hb)).1)).mono ?_); rintro e w' ⟨rfl, hb⟩; have HB := Aside0.mk (below_step (pw_below_drewN hB0.out _) hb); have HB1 := Aside0.mk (below_step (pw_below_drewN hB1.out _) hb); have hc2 := (hcell.out w' HB1.out).2; clear hb; rw [H3.out])
      | (go_at_call 50; (refine (slices_ContainsFunc_api_Feeder_api_Feeder.contains 51 #[.pointer (some ⟨w.heap.size, 0, none⟩)] (feed_Valid.bad2 a0_0) A0_2 c0_2 l0_2 _ (Kd.C_below HR2.out HB.out) hc0_2 feed_Valid.enter2 (fun x _ W hb => feed_Valid.clos2 a0_0 w.heap.size x W (hcell.out W (below_step HB1.out hb)).1)).mono ?_); rintro e w' ⟨rfl, hb⟩; have HB2 := Aside0.mk hb; clear hb))
     go_ret
     exact ⟨rfl, below_step HB.out HB2.out⟩
   ·
    rw [decide_eq_false h2, Bool.false_and]
    have k2 : decide ((l0_2.length : Int) > 6) = true := decide_eq_true (by omega)
    clear h1 h2
    go_enter Tryd.func27, Tryd.ntmps27
    go_wp2_with (go_at_call 25; (with_reducible refine (feed_Valid.within_calls 1 a0_0 8 _).mono ?_); rintro e w' ⟨rfl, ⟨n, rfl⟩⟩; rw [H0.out])
    go_ret
    exact ⟨rfl, by repeat (first | exact hB0.out | apply pw_below_drewN)⟩
  ·
   rw [decide_eq_false h1, Bool.false_and]
   have k1 : decide ((l0_1.length : Int) > 10) = true := decide_eq_true (by omega)
   clear h1
   go_enter Tryd.func27, Tryd.ntmps27
   go_wp2_with (go_at_call 25; (with_reducible refine (feed_Valid.within_calls 1 a0_0 8 _).mono ?_); rintro e w' ⟨rfl, ⟨n, rfl⟩⟩; rw [H0.out])
   go_ret
   exact ⟨rfl, by repeat (first | exact hB0.out | apply pw_below_drewN)⟩
 ·
  replace h0 := Bool.eq_false_iff.mpr h0
  rw [h0, Bool.false_and]
  have H0 := Aside0.mk h0
  clear h0
  go_enter Tryd.func27, Tryd.ntmps27
  go_wp2_with (go_at_call 25; (with_reducible refine (feed_Valid.within_calls 1 a0_0 8 _).mono ?_); rintro e w' ⟨rfl, ⟨n, rfl⟩⟩; rw [H0.out])
  go_ret
  exact ⟨rfl, by repeat (first | exact hB0.out | apply pw_below_drewN)⟩

/-! ### feed_open: function 37 -/
def feed_open.f (a0_0 : Int) (l0_1 : List (S47)) (l0_2 : List (S49)) (a1 : Int) : Option (Int × Int) := (feed_Valid.f a0_0 l0_1 l0_2).bind fun t159 => (if t159 = true then ((feed_grid_all.f a0_0 l0_1 l0_2).bind fun t160 => ((feed_within.f 0 a1 (wrap64 (t160 - 1))).bind fun t161 => (if t161 = true then (some (a0_0, 0)) else (some (a0_0, 51))))) else (some (a0_0, 50)))
set_option maxHeartbeats 8000000 in
set_option maxRecDepth 100000 in
theorem feed_open.calls (a0_0 : Int) (A0_1 : Option Addr) (c0_1 : Nat) (l0_1 : List (S47)) (A0_2 : Option Addr) (c0_2 : Nat) (l0_2 : List (S49)) (a1 : Int) (r1 : Int) (r2 : Int) (w : World) (hr0_1 : Kd.C k47 w A0_1 l0_1.length l0_1) (hc0_1 : l0_1.length ≤ c0_1) (hr0_2 : Kd.C k49 w A0_2 l0_2.length l0_2) (hc0_2 : l0_2.length ≤ c0_2) (h : feed_open.f a0_0 l0_1 l0_2 a1 = some (r1, r2)) :
  Calls Tryd.prog 37 #[.agg #[.int .i64 a0_0, .slice A0_1 l0_1.length c0_1, .slice A0_2 l0_2.length c0_2], .int .i64 a1] w fun e w' => e = .returned (.tuple #[.agg #[.int .i64 r1, .slice A0_1 l0_1.length c0_1, .slice A0_2 l0_2.length c0_2], .int .i64 r2]) ∧ Below w.heap.size w w' := by
 have hu25 := Tryd.underlying25
 have hu54 := Tryd.underlying54
 have HR0_1 := Aside0.mk hr0_1
 have HC0_1 := Aside0.mk hc0_1
 clear hr0_1 hc0_1
 have HR0_2 := Aside0.mk hr0_2
 have HC0_2 := Aside0.mk hc0_2
 clear hr0_2 hc0_2
 have HB := Aside0.mk (Below.refl w.heap.size w)
 have H : ((feed_Valid.f a0_0 l0_1 l0_2).bind fun t159 => (if t159 = true then ((feed_grid_all.f a0_0 l0_1 l0_2).bind fun t160 => ((feed_within.f 0 a1 (wrap64 (t160 - 1))).bind fun t161 => (if t161 = true then (some (a0_0, 0)) else (some (a0_0, 51))))) else (some (a0_0, 50)))) = some (r1, r2) := h
 clear h
 replace H := Option.bind_eq_some_iff.mp H
 obtain ⟨t159, A30, H⟩ := H
 try dsimp only at H
 have A3 := Aside0.mk A30
 clear A30
 by_cases c4 : t159 = true
 ·
  subst c4
  rw [if_pos rfl] at H
  replace H := Option.bind_eq_some_iff.mp H
  obtain ⟨t160, A50, H⟩ := H
  try dsimp only at H
  have A5 := Aside0.mk A50
  clear A50
  replace H := Option.bind_eq_some_iff.mp H
  obtain ⟨t161, A60, H⟩ := H
  try dsimp only at H
  have A6 := Aside0.mk A60
  clear A60
  by_cases c7 : t161 = true
  ·
   subst c7
   rw [if_pos rfl] at H
   simp only [Option.some.injEq, Prod.mk.injEq] at H
   obtain ⟨rfl, rfl⟩ := H
   go_enter Tryd.func37, Tryd.ntmps37
   go_wp2_with (first | ((with_reducible refine gate_dst (N := 2) rfl ?_); refine box_event ?hg (N := 2) ?hd (cs := #[.int .i64 a0_0, .slice A0_1 l0_1.length c0_1, .slice A0_2 l0_2.length c0_2]) (t := 25) ?hr ?_; (case hd => rfl); (case hg => rfl); (case hr => first | (go_simp; done) | (go_simp; rfl)); intro gb156 hg w8 hbox hb; have BK156 := Aside0.mk (hbox); have GW156 := bsz (w := w) hg; have GE156 := GW156; replace HB := Aside0.mk (below_step bel hb); clear hb hbox hg) | ((with_reducible refine gate_dst (N := 4) rfl ?_); refine box_event ?hg (N := 4) ?hd (cs := #[.int .i64 0, .slice none 0 0, .slice none 0 0]) (t := 54) ?hr ?_; (case hd => rfl); (case hg => rfl); (case hr => first | (go_simp; done) | (go_simp; rfl)); intro gb157 hg w9 hbox hb; have BK157 := Aside0.mk (hbox); have GW157 := bsz (w := w) hg; have GE157 := GW157; have NB156_157 := neL (g := gb156) hg; have NB157_156 := neR (g := gb156) hg; replace BK156 := Aside0.mk (blk_below (g := gb156) blkz hb); replace HB := Aside0.mk (below_step bel hb); clear hb hbox hg; have hnb10 := NB156_157.out; have hnc10 := NB157_156.out; obtain ⟨hcz11_0, hcz11_1, hcz11_2⟩ := bc3 BK156.out) | ((with_reducible refine gate_dst (N := 6) rfl ?_); refine box_event ?hg (N := 6) ?hd (cs := #[.int .i64 0, .slice none 0 0, .slice none 0 0]) (t := 54) ?hr ?_; (case hd => rfl); (case hg => rfl); (case hr => first | (go_simp; done) | (go_simp; rfl)); intro gb158 hg w12 hbox hb; have BK158 := Aside0.mk (hbox); have GW158 := bsz (w := w) hg; have GE158 := GW158; have NB156_158 := neL (g := gb156) hg; have NB158_156 := neR (g := gb156) hg; have NB157_158 := neL (g := gb157) hg; have NB158_157 := neR (g := gb157) hg; replace BK156 := Aside0.mk (blk_below (g := gb156) blkz hb); replace BK157 := Aside0.mk (blk_below (g := gb157) blkz hb); replace HB := Aside0.mk (below_step bel hb); clear hb hbox hg; have hnb13 := NB158_156.out; have hnc13 := NB156_158.out; have hnb14 := NB158_157.out; have hnc14 := NB157_158.out; obtain ⟨hcz15_0, hcz15_1, hcz15_2⟩ := bc3 BK158.out; obtain ⟨hfz15_0, hfz15_1, hfz15_2⟩ := bf3 BK158.out; obtain ⟨hcz16_0, hcz16_1, hcz16_2⟩ := bc3 BK156.out) | ((with_reducible refine gate_callee (f := 27) rfl ?_); refine goesL_ (some 11) rfl rfl Tryd.func27 (by kernel_rfl) rfl #[.agg #[.int .i64 a0_0, .slice A0_1 l0_1.length c0_1, .slice A0_2 l0_2.length c0_2]] rfl mapz ?_; (with_reducible refine (feed_Valid.calls a0_0 _ _ l0_1 _ _ l0_2 true _ (cbz HR0_1) HC0_1.out (cbz HR0_2) HC0_2.out A3.out).mono ?_); rintro e w17 ⟨rfl, hb⟩; refine ⟨_, rfl, ?_⟩; replace BK156 := Aside0.mk (blk_below (g := gb156) (o := .cells #[.int .i64 a0_0, .slice A0_1 l0_1.length c0_1, .slice A0_2 l0_2.length c0_2] 25 (0, 0)) (by (with_reducible repeat (first | refine blk_drewN ?_ _ | refine blk_drew ?_ | refine blk_alloc ?_ _)); refine blk_far ?_ NB156_158.out _; (with_reducible repeat (first | refine blk_drewN ?_ _ | refine blk_drew ?_ | refine blk_alloc ?_ _)); refine blk_far ?_ NB156_158.out _; (with_reducible repeat (first | refine blk_drewN ?_ _ | refine blk_drew ?_ | refine blk_alloc ?_ _)); refine blk_far ?_ NB156_158.out _; (with_reducible repeat (first | refine blk_drewN ?_ _ | refine blk_drew ?_ | refine blk_alloc ?_ _)); exact BK156.out) hb); replace BK157 := Aside0.mk (blk_below (g := gb157) (o := .cells #[.int .i64 0, .slice none 0 0, .slice none 0 0] 54 (0, 0)) (by (with_reducible repeat (first | refine blk_drewN ?_ _ | refine blk_drew ?_ | refine blk_alloc ?_ _)); refine blk_far ?_ NB157_158.out _; (with_reducible repeat (first | refine blk_drewN ?_ _ | refine blk_drew ?_ | refine blk_alloc ?_ _)); refine blk_far ?_ NB157_158.out _; (with_reducible repeat (first | refine blk_drewN ?_ _ | refine blk_drew ?_ | refine blk_alloc ?_ _)); refine blk_far ?_ NB157_158.out _; (with_reducible repeat (first | refine blk_drewN ?_ _ | refine blk_drew ?_ | refine blk_alloc ?_ _)); exact BK157.out) hb); replace BK158 := Aside0.mk (blk_below (g := gb158) (o := .cells #[.int .i64 a0_0, .slice A0_1 l0_1.length c0_1, .slice A0_2 l0_2.length c0_2] 54 (0, 0)) (by (with_reducible repeat (first | refine blk_drewN ?_ _ | refine blk_drew ?_ | refine blk_alloc ?_ _)); refine blk_put (cs := #[.int .i64 a0_0, .slice A0_1 l0_1.length c0_1, .slice none 0 0]) ?_ 2 _ rfl; (with_reducible repeat (first | refine blk_drewN ?_ _ | refine blk_drew ?_ | refine blk_alloc ?_ _)); refine blk_put (cs := #[.int .i64 a0_0, .slice none 0 0, .slice none 0 0]) ?_ 1 _ rfl; (with_reducible repeat (first | refine blk_drewN ?_ _ | refine blk_drew ?_ | refine blk_alloc ?_ _)); refine blk_put (cs := #[.int .i64 0, .slice none 0 0, .slice none 0 0]) ?_ 0 _ rfl; (with_reducible repeat (first | refine blk_drewN ?_ _ | refine blk_drew ?_ | refine blk_alloc ?_ _)); exact BK158.out) hb); replace HB := Aside0.mk (below_step bel hb); clear hb; obtain ⟨hcz18_0, hcz18_1, hcz18_2⟩ := bc3 BK158.out; obtain ⟨hfz18_0, hfz18_1, hfz18_2⟩ := bf3 BK158.out) | ((with_reducible refine gate_callee (f := 26) rfl ?_); refine goesL_ (some 17) rfl rfl Tryd.func26 (by kernel_rfl) rfl #[.agg #[.int .i64 a0_0, .slice A0_1 l0_1.length c0_1, .slice A0_2 l0_2.length c0_2]] rfl mapz ?_; (with_reducible refine (feed_grid_all.calls a0_0 _ _ l0_1 _ _ l0_2 t160 _ (cbz HR0_1) HC0_1.out (cbz HR0_2) HC0_2.out A5.out).mono ?_); rintro e w19 ⟨rfl, hb⟩; refine ⟨_, rfl, ?_⟩; replace BK156 := Aside0.mk (blk_below (g := gb156) blkz hb); replace BK157 := Aside0.mk (blk_below (g := gb157) blkz hb); replace BK158 := Aside0.mk (blk_below (g := gb158) blkz hb); replace HB := Aside0.mk (below_step bel hb); clear hb) | ((with_reducible refine gate_callee (f := 25) rfl ?_); refine goesL_ (some 19) rfl rfl Tryd.func25 (by kernel_rfl) rfl #[.int .i64 0, .int .i64 a1, .int .i64 (wrap64 (t160 - 1))] rfl mapz ?_; (with_reducible refine (feed_within.calls 0 a1 (wrap64 (t160 - 1)) true _ A6.out).mono ?_); rintro e w' ⟨rfl, ⟨nd, rfl⟩⟩; refine ⟨_, rfl, ?_⟩; (try (rw [drewN_self w19]; generalize hq_ : World.drewN w19 _ = w19; have n0_ : Aside0 (w19.heap[gb156]? = some (.cells #[.int .i64 a0_0, .slice A0_1 l0_1.length c0_1, .slice A0_2 l0_2.length c0_2] 25 (0, 0))) := ⟨by rw [← hq_]; exact blkz⟩; have n1_ : Aside0 (w19.heap[gb157]? = some (.cells #[.int .i64 0, .slice none 0 0, .slice none 0 0] 54 (0, 0))) := ⟨by rw [← hq_]; exact blkz⟩; have n2_ : Aside0 (w19.heap[gb158]? = some (.cells #[.int .i64 a0_0, .slice A0_1 l0_1.length c0_1, .slice A0_2 l0_2.length c0_2] 54 (0, 0))) := ⟨by rw [← hq_]; exact blkz⟩; have n3_ : Aside0 (Below w.heap.size w w19) := ⟨by rw [← hq_]; exact bel⟩; clear BK156 BK157 BK158 HB hq_; have BK156 := n0_; have BK157 := n1_; have BK158 := n2_; have HB := n3_; clear n0_ n1_ n2_ n3_)); obtain ⟨hcz20_0, hcz20_1, hcz20_2⟩ := bc3 BK158.out; obtain ⟨hfz20_0, hfz20_1, hfz20_2⟩ := bf3 BK158.out; obtain ⟨hcz21_0, hcz21_1, hcz21_2⟩ := bc3 BK157.out; obtain ⟨hfz21_0, hfz21_1, hfz21_2⟩ := bf3 BK157.out))
   refine bodyPost_ret (results_ct rfl _ _ gb157 54 #[.int .i64 a0_0, .slice A0_1 l0_1.length c0_1, .slice A0_2 l0_2.length c0_2] (0, 0) _ rfl (by (with_reducible repeat (first | refine blk_drewN ?_ _ | refine blk_drew ?_ | refine blk_alloc ?_ _)); refine blk_put (cs := #[.int .i64 a0_0, .slice A0_1 l0_1.length c0_1, .slice none 0 0]) ?_ 2 _ rfl; (with_reducible repeat (first | refine blk_drewN ?_ _ | refine blk_drew ?_ | refine blk_alloc ?_ _)); refine blk_put (cs := #[.int .i64 a0_0, .slice none 0 0, .slice none 0 0]) ?_ 1 _ rfl; (with_reducible repeat (first | refine blk_drewN ?_ _ | refine blk_drew ?_ | refine blk_alloc ?_ _)); refine blk_put (cs := #[.int .i64 0, .slice none 0 0, .slice none 0 0]) ?_ 0 _ rfl; (with_reducible repeat (first | refine blk_drewN ?_ _ | refine blk_drew ?_ | refine blk_alloc ?_ _)); exact BK157.out) Tryd.underlying54 rfl (by kernel_rfl)) rfl ?_
   exact ⟨ezz, bel⟩
  ·
   replace c7 := Bool.eq_false_iff.mpr c7
   subst c7
   rw [if_neg (show ¬ (false = true) by decide)] at H
   simp only [Option.some.injEq, Prod.mk.injEq] at H
   obtain ⟨rfl, rfl⟩ := H
   go_enter Tryd.func37, Tryd.ntmps37
   go_wp2_with (first | ((with_reducible refine gate_dst (N := 2) rfl ?_); refine box_event ?hg (N := 2) ?hd (cs := #[.int .i64 a0_0, .slice A0_1 l0_1.length c0_1, .slice A0_2 l0_2.length c0_2]) (t := 25) ?hr ?_; (case hd => rfl); (case hg => rfl); (case hr => first | (go_simp; done) | (go_simp; rfl)); intro gb156 hg w22 hbox hb; have BK156 := Aside0.mk (hbox); have GW156 := bsz (w := w) hg; have GE156 := GW156; replace HB := Aside0.mk (below_step bel hb); clear hb hbox hg) | ((with_reducible refine gate_dst (N := 4) rfl ?_); refine box_event ?hg (N := 4) ?hd (cs := #[.int .i64 0, .slice none 0 0, .slice none 0 0]) (t := 54) ?hr ?_; (case hd => rfl); (case hg => rfl); (case hr => first | (go_simp; done) | (go_simp; rfl)); intro gb157 hg w23 hbox hb; have BK157 := Aside0.mk (hbox); have GW157 := bsz (w := w) hg; have GE157 := GW157; have NB156_157 := neL (g := gb156) hg; have NB157_156 := neR (g := gb156) hg; replace BK156 := Aside0.mk (blk_below (g := gb156) blkz hb); replace HB := Aside0.mk (below_step bel hb); clear hb hbox hg; have hnb24 := NB156_157.out; have hnc24 := NB157_156.out; obtain ⟨hcz25_0, hcz25_1, hcz25_2⟩ := bc3 BK156.out) | ((with_reducible refine gate_dst (N := 6) rfl ?_); refine box_event ?hg (N := 6) ?hd (cs := #[.int .i64 0, .slice none 0 0, .slice none 0 0]) (t := 54) ?hr ?_; (case hd => rfl); (case hg => rfl); (case hr => first | (go_simp; done) | (go_simp; rfl)); intro gb158 hg w26 hbox hb; have BK158 := Aside0.mk (hbox); have GW158 := bsz (w := w) hg; have GE158 := GW158; have NB156_158 := neL (g := gb156) hg; have NB158_156 := neR (g := gb156) hg; have NB157_158 := neL (g := gb157) hg; have NB158_157 := neR (g := gb157) hg; replace BK156 := Aside0.mk (blk_below (g := gb156) blkz hb); replace BK157 := Aside0.mk (blk_below (g := gb157) blkz hb); replace HB := Aside0.mk (below_step bel hb); clear hb hbox hg; have hnb27 := NB158_156.out; have hnc27 := NB156_158.out; have hnb28 := NB158_157.out; have hnc28 := NB157_158.out; obtain ⟨hcz29_0, hcz29_1, hcz29_2⟩ := bc3 BK158.out; obtain ⟨hfz29_0, hfz29_1, hfz29_2⟩ := bf3 BK158.out; obtain ⟨hcz30_0, hcz30_1, hcz30_2⟩ := bc3 BK156.out) | ((with_reducible refine gate_callee (f := 27) rfl ?_); refine goesL_ (some 11) rfl rfl Tryd.func27 (by kernel_rfl) rfl #[.agg #[.int .i64 a0_0, .slice A0_1 l0_1.length c0_1, .slice A0_2 l0_2.length c0_2]] rfl mapz ?_; (with_reducible refine (feed_Valid.calls a0_0 _ _ l0_1 _ _ l0_2 true _ (cbz HR0_1) HC0_1.out (cbz HR0_2) HC0_2.out A3.out).mono ?_); rintro e w31 ⟨rfl, hb⟩; refine ⟨_, rfl, ?_⟩; replace BK156 := Aside0.mk (blk_below (g := gb156) (o := .cells #[.int .i64 a0_0, .slice A0_1 l0_1.length c0_1, .slice A0_2 l0_2.length c0_2] 25 (0, 0)) (by (with_reducible repeat (first | refine blk_drewN ?_ _ | refine blk_drew ?_ | refine blk_alloc ?_ _)); refine blk_far ?_ NB156_158.out _; (with_reducible repeat (first | refine blk_drewN ?_ _ | refine blk_drew ?_ | refine blk_alloc ?_ _)); refine blk_far ?_ NB156_158.out _; (with_reducible repeat (first | refine blk_drewN ?_ _ | refine blk_drew ?_ | refine blk_alloc ?_ _)); refine blk_far ?_ NB156_158.out _; (with_reducible repeat (first | refine blk_drewN ?_ _ | refine blk_drew ?_ | refine blk_alloc ?_ _)); exact BK156.out) hb); replace BK157 := Aside0.mk (blk_below (g := gb157) (o := .cells #[.int .i64 0, .slice none 0 0, .slice none 0 0] 54 (0, 0)) (by (with_reducible repeat (first | refine blk_drewN ?_ _ | refine blk_drew ?_ | refine blk_alloc ?_ _)); refine blk_far ?_ NB157_158.out _; (with_reducible repeat (first | refine blk_drewN ?_ _ | refine blk_drew ?_ | refine blk_alloc ?_ _)); refine blk_far ?_ NB157_158.out _; (with_reducible repeat (first | refine blk_drewN ?_ _ | refine blk_drew ?_ | refine blk_alloc ?_ _)); refine blk_far ?_ NB157_158.out _; (with_reducible repeat (first | refine blk_drewN ?_ _ | refine blk_drew ?_ | refine blk_alloc ?_ _)); exact BK157.out) hb); replace BK158 := Aside0.mk (blk_below (g := gb158) (o := .cells #[.int .i64 a0_0, .slice A0_1 l0_1.length c0_1, .slice A0_2 l0_2.length c0_2] 54 (0, 0)) (by (with_reducible repeat (first | refine blk_drewN ?_ _ | refine blk_drew ?_ | refine blk_alloc ?_ _)); refine blk_put (cs := #[.int .i64 a0_0, .slice A0_1 l0_1.length c0_1, .slice none 0 0]) ?_ 2 _ rfl; (with_reducible repeat (first | refine blk_drewN ?_ _ | refine blk_drew ?_ | refine blk_alloc ?_ _)); refine blk_put (cs := #[.int .i64 a0_0, .slice none 0 0, .slice none 0 0]) ?_ 1 _ rfl; (with_reducible repeat (first | refine blk_drewN ?_ _ | refine blk_drew ?_ | refine blk_alloc ?_ _)); refine blk_put (cs := #[.int .i64 0, .slice none 0 0, .slice none 0 0]) ?_ 0 _ rfl; (with_reducible repeat (first | refine blk_drewN ?_ _ | refine blk_drew ?_ | refine blk_alloc ?_ _)); exact BK158.out) hb); replace HB := Aside0.mk (below_step bel hb); clear hb; obtain ⟨hcz32_0, hcz32_1, hcz32_2⟩ := bc3 BK158.out; obtain ⟨hfz32_0, hfz32_1, hfz32_2⟩ := bf3 BK158.out) | ((with_reducible refine gate_callee (f := 26) rfl ?_); refine goesL_ (some 17) rfl rfl Tryd.func26 (by kernel_rfl) rfl #[.agg #[.int .i64 a0_0, .slice A0_1 l0_1.length c0_1, .slice A0_2 l0_2.length c0_2]] rfl mapz ?_; (with_reducible refine (feed_grid_all.calls a0_0 _ _ l0_1 _ _ l0_2 t160 _ (cbz HR0_1) HC0_1.out (cbz HR0_2) HC0_2.out A5.out).mono ?_); rintro e w33 ⟨rfl, hb⟩; refine ⟨_, rfl, ?_⟩; replace BK156 := Aside0.mk (blk_below (g := gb156) blkz hb); replace BK157 := Aside0.mk (blk_below (g := gb157) blkz hb); replace BK158 := Aside0.mk (blk_below (g := gb158) blkz hb); replace HB := Aside0.mk (below_step bel hb); clear hb) | ((with_reducible refine gate_callee (f := 25) rfl ?_); refine goesL_ (some 19) rfl rfl Tryd.func25 (by kernel_rfl) rfl #[.int .i64 0, .int .i64 a1, .int .i64 (wrap64 (t160 - 1))] rfl mapz ?_; (with_reducible refine (feed_within.calls 0 a1 (wrap64 (t160 - 1)) false _ A6.out).mono ?_); rintro e w' ⟨rfl, ⟨nd, rfl⟩⟩; refine ⟨_, rfl, ?_⟩; (try (rw [drewN_self w33]; generalize hq_ : World.drewN w33 _ = w33; have n0_ : Aside0 (w33.heap[gb156]? = some (.cells #[.int .i64 a0_0, .slice A0_1 l0_1.length c0_1, .slice A0_2 l0_2.length c0_2] 25 (0, 0))) := ⟨by rw [← hq_]; exact blkz⟩; have n1_ : Aside0 (w33.heap[gb157]? = some (.cells #[.int .i64 0, .slice none 0 0, .slice none 0 0] 54 (0, 0))) := ⟨by rw [← hq_]; exact blkz⟩; have n2_ : Aside0 (w33.heap[gb158]? = some (.cells #[.int .i64 a0_0, .slice A0_1 l0_1.length c0_1, .slice A0_2 l0_2.length c0_2] 54 (0, 0))) := ⟨by rw [← hq_]; exact blkz⟩; have n3_ : Aside0 (Below w.heap.size w w33) := ⟨by rw [← hq_]; exact bel⟩; clear BK156 BK157 BK158 HB hq_; have BK156 := n0_; have BK157 := n1_; have BK158 := n2_; have HB := n3_; clear n0_ n1_ n2_ n3_)); obtain ⟨hcz34_0, hcz34_1, hcz34_2⟩ := bc3 BK158.out; obtain ⟨hfz34_0, hfz34_1, hfz34_2⟩ := bf3 BK158.out; obtain ⟨hcz35_0, hcz35_1, hcz35_2⟩ := bc3 BK157.out; obtain ⟨hfz35_0, hfz35_1, hfz35_2⟩ := bf3 BK157.out))
   refine bodyPost_ret (results_ct rfl _ _ gb157 54 #[.int .i64 a0_0, .slice A0_1 l0_1.length c0_1, .slice A0_2 l0_2.length c0_2] (0, 0) _ rfl (by (with_reducible repeat (first | refine blk_drewN ?_ _ | refine blk_drew ?_ | refine blk_alloc ?_ _)); refine blk_put (cs := #[.int .i64 a0_0, .slice A0_1 l0_1.length c0_1, .slice none 0 0]) ?_ 2 _ rfl; (with_reducible repeat (first | refine blk_drewN ?_ _ | refine blk_drew ?_ | refine blk_alloc ?_ _)); refine blk_put (cs := #[.int .i64 a0_0, .slice none 0 0, .slice none 0 0]) ?_ 1 _ rfl; (with_reducible repeat (first | refine blk_drewN ?_ _ | refine blk_drew ?_ | refine blk_alloc ?_ _)); refine blk_put (cs := #[.int .i64 0, .slice none 0 0, .slice none 0 0]) ?_ 0 _ rfl; (with_reducible repeat (first | refine blk_drewN ?_ _ | refine blk_drew ?_ | refine blk_alloc ?_ _)); exact BK157.out) Tryd.underlying54 rfl (by kernel_rfl)) rfl ?_
   exact ⟨ezz, bel⟩
 ·
  replace c4 := Bool.eq_false_iff.mpr c4
  subst c4
  rw [if_neg (show ¬ (false = true) by decide)] at H
  simp only [Option.some.injEq, Prod.mk.injEq] at H
  obtain ⟨rfl, rfl⟩ := H
  go_enter Tryd.func37, Tryd.ntmps37
  go_wp2_with (first | ((with_reducible refine gate_dst (N := 2) rfl ?_); refine box_event ?hg (N := 2) ?hd (cs := #[.int .i64 a0_0, .slice A0_1 l0_1.length c0_1, .slice A0_2 l0_2.length c0_2]) (t := 25) ?hr ?_; (case hd => rfl); (case hg => rfl); (case hr => first | (go_simp; done) | (go_simp; rfl)); intro gb156 hg w36 hbox hb; have BK156 := Aside0.mk (hbox); have GW156 := bsz (w := w) hg; have GE156 := GW156; replace HB := Aside0.mk (below_step bel hb); clear hb hbox hg) | ((with_reducible refine gate_dst (N := 4) rfl ?_); refine box_event ?hg (N := 4) ?hd (cs := #[.int .i64 0, .slice none 0 0, .slice none 0 0]) (t := 54) ?hr ?_; (case hd => rfl); (case hg => rfl); (case hr => first | (go_simp; done) | (go_simp; rfl)); intro gb157 hg w37 hbox hb; have BK157 := Aside0.mk (hbox); have GW157 := bsz (w := w) hg; have GE157 := GW157; have NB156_157 := neL (g := gb156) hg; have NB157_156 := neR (g := gb156) hg; replace BK156 := Aside0.mk (blk_below (g := gb156) blkz hb); replace HB := Aside0.mk (below_step bel hb); clear hb hbox hg; have hnb38 := NB156_157.out; have hnc38 := NB157_156.out; obtain ⟨hcz39_0, hcz39_1, hcz39_2⟩ := bc3 BK156.out) | ((with_reducible refine gate_dst (N := 6) rfl ?_); refine box_event ?hg (N := 6) ?hd (cs := #[.int .i64 0, .slice none 0 0, .slice none 0 0]) (t := 54) ?hr ?_; (case hd => rfl); (case hg => rfl); (case hr => first | (go_simp; done) | (go_simp; rfl)); intro gb158 hg w40 hbox hb; have BK158 := Aside0.mk (hbox); have GW158 := bsz (w := w) hg; have GE158 := GW158; have NB156_158 := neL (g := gb156) hg; have NB158_156 := neR (g := gb156) hg; have NB157_158 := neL (g := gb157) hg; have NB158_157 := neR (g := gb157) hg; replace BK156 := Aside0.mk (blk_below (g := gb156) blkz hb); replace BK157 := Aside0.mk (blk_below (g := gb157) blkz hb); replace HB := Aside0.mk (below_step bel hb); clear hb hbox hg; have hnb41 := NB158_156.out; have hnc41 := NB156_158.out; have hnb42 := NB158_157.out; have hnc42 := NB157_158.out; obtain ⟨hcz43_0, hcz43_1, hcz43_2⟩ := bc3 BK158.out; obtain ⟨hfz43_0, hfz43_1, hfz43_2⟩ := bf3 BK158.out; obtain ⟨hcz44_0, hcz44_1, hcz44_2⟩ := bc3 BK156.out) | ((with_reducible refine gate_callee (f := 27) rfl ?_); refine goesL_ (some 11) rfl rfl Tryd.func27 (by kernel_rfl) rfl #[.agg #[.int .i64 a0_0, .slice A0_1 l0_1.length c0_1, .slice A0_2 l0_2.length c0_2]] rfl mapz ?_; (with_reducible refine (feed_Valid.calls a0_0 _ _ l0_1 _ _ l0_2 false _ (cbz HR0_1) HC0_1.out (cbz HR0_2) HC0_2.out A3.out).mono ?_); rintro e w45 ⟨rfl, hb⟩; refine ⟨_, rfl, ?_⟩; replace BK156 := Aside0.mk (blk_below (g := gb156) (o := .cells #[.int .i64 a0_0, .slice A0_1 l0_1.length c0_1, .slice A0_2 l0_2.length c0_2] 25 (0, 0)) (by (with_reducible repeat (first | refine blk_drewN ?_ _ | refine blk_drew ?_ | refine blk_alloc ?_ _)); refine blk_far ?_ NB156_158.out _; (with_reducible repeat (first | refine blk_drewN ?_ _ | refine blk_drew ?_ | refine blk_alloc ?_ _)); refine blk_far ?_ NB156_158.out _; (with_reducible repeat (first | refine blk_drewN ?_ _ | refine blk_drew ?_ | refine blk_alloc ?_ _)); refine blk_far ?_ NB156_158.out _; (with_reducible repeat (first | refine blk_drewN ?_ _ | refine blk_drew ?_ | refine blk_alloc ?_ _)); exact BK156.out) hb); replace BK157 := Aside0.mk (blk_below (g := gb157) (o := .cells #[.int .i64 0, .slice none 0 0, .slice none 0 0] 54 (0, 0)) (by (with_reducible repeat (first | refine blk_drewN ?_ _ | refine blk_drew ?_ | refine blk_alloc ?_ _)); refine blk_far ?_ NB157_158.out _; (with_reducible repeat (first | refine blk_drewN ?_ _ | refine blk_drew ?_ | refine blk_alloc ?_ _)); refine blk_far ?_ NB157_158.out _; (with_reducible repeat (first | refine blk_drewN ?_ _ | refine blk_drew ?_ | refine blk_alloc ?_ _)); refine blk_far ?_ NB157_158.out _; (with_reducible repeat (first | refine blk_drewN ?_ _ | refine blk_drew ?_ | refine blk_alloc ?_ _)); exact BK157.out) hb); replace BK158 := Aside0.mk (blk_below (g := gb158) (o := .cells #[.int .i64 a0_0, .slice A0_1 l0_1.length c0_1, .slice A0_2 l0_2.length c0_2] 54 (0, 0)) (by (with_reducible repeat (first | refine blk_drewN ?_ _ | refine blk_drew ?_ | refine blk_alloc ?_ _)); refine blk_put (cs := #[.int .i64 a0_0, .slice A0_1 l0_1.length c0_1, .slice none 0 0]) ?_ 2 _ rfl; (with_reducible repeat (first | refine blk_drewN ?_ _ | refine blk_drew ?_ | refine blk_alloc ?_ _)); refine blk_put (cs := #[.int .i64 a0_0, .slice none 0 0, .slice none 0 0]) ?_ 1 _ rfl; (with_reducible repeat (first | refine blk_drewN ?_ _ | refine blk_drew ?_ | refine blk_alloc ?_ _)); refine blk_put (cs := #[.int .i64 0, .slice none 0 0, .slice none 0 0]) ?_ 0 _ rfl; (with_reducible repeat (first | refine blk_drewN ?_ _ | refine blk_drew ?_ | refine blk_alloc ?_ _)); exact BK158.out) hb); replace HB := Aside0.mk (below_step bel hb); clear hb; obtain ⟨hcz46_0, hcz46_1, hcz46_2⟩ := bc3 BK158.out; obtain ⟨hfz46_0, hfz46_1, hfz46_2⟩ := bf3 BK158.out; obtain ⟨hcz47_0, hcz47_1, hcz47_2⟩ := bc3 BK157.out; obtain ⟨hfz47_0, hfz47_1, hfz47_2⟩ := bf3 BK157.out))
  refine bodyPost_ret (results_ct rfl _ _ gb157 54 #[.int .i64 a0_0, .slice A0_1 l0_1.length c0_1, .slice A0_2 l0_2.length c0_2] (0, 0) _ rfl (by (with_reducible repeat (first | refine blk_drewN ?_ _ | refine blk_drew ?_ | refine blk_alloc ?_ _)); refine blk_put (cs := #[.int .i64 a0_0, .slice A0_1 l0_1.length c0_1, .slice none 0 0]) ?_ 2 _ rfl; (with_reducible repeat (first | refine blk_drewN ?_ _ | refine blk_drew ?_ | refine blk_alloc ?_ _)); refine blk_put (cs := #[.int .i64 a0_0, .slice none 0 0, .slice none 0 0]) ?_ 1 _ rfl; (with_reducible repeat (first | refine blk_drewN ?_ _ | refine blk_drew ?_ | refine blk_alloc ?_ _)); refine blk_put (cs := #[.int .i64 0, .slice none 0 0, .slice none 0 0]) ?_ 0 _ rfl; (with_reducible repeat (first | refine blk_drewN ?_ _ | refine blk_drew ?_ | refine blk_alloc ?_ _)); exact BK157.out) Tryd.underlying54 rfl (by kernel_rfl)) rfl ?_
  exact ⟨ezz, bel⟩

/-! ### slices_ContainsFunc_int_int: function 30 -/
theorem slices_ContainsFunc_int_int.rd_get (l : List Int) (x : Int) (h0 : 0 ≤ x) (h1 : x < (l.length : Int)) : ∃ h : x.toNat < l.length, rd l x = l[x.toNat] := by
 have h : x.toNat < l.length := by omega
 exact ⟨h, by simp [rd, List.getD_eq_getElem?_getD, h]⟩
set_option maxHeartbeats 2000000 in
set_option maxRecDepth 100000 in
theorem slices_ContainsFunc_int_int.index (c : Nat) (cs : Array Value) (p : Int → Bool) (A0 : Option Addr) (c0 : Nat) (l0 : List Int) (w : World) (hr0 : Kd.C (Kd.int .i64) w A0 l0.length l0) (hc0 : l0.length ≤ c0)
  (he : ∀ (vs : Array Value) (W : World), (callFunc c vs).run Tryd.prog W = .ok (.enter c vs) W)
  (hf : ∀ (x : Int), x ∈ l0 → ∀ (W : World), Below w.heap.size w W → Calls Tryd.prog c (#[.int .i64 x] ++ cs) W fun e w' => e = .returned (.bool (p x)) ∧ Below W.heap.size W w') :
  Calls Tryd.prog 55 #[.slice A0 l0.length c0, .func (.func c) #[] cs] w fun e w' => e = .returned (.int .i64 (Idx.idxFrom p l0)) ∧ Below w.heap.size w w' := by
 have hl : l0.length ≤ 9223372036854775807 := hr0.2.1
 have HR := Aside0.mk hr0
 have HF := Aside0.mk hf
 clear hr0 hf
 go_enter Tryd.func55, Tryd.ntmps55
 go_wp2
 go_loopg [5, 8] l0.length (fun kq v5 v8 w' => ∃ x : Int, v8 = .int .i64 x ∧ Aside0 (0 ≤ x ∧ x ≤ l0.length ∧ ∀ j (h : j < l0.length), (j : Int) < x → p l0[j] = false) ∧ Aside0 (kq = l0.length - x.toNat) ∧ Aside0 (Below w.heap.size w w'))
 case atStart => exact ⟨0, rfl, ⟨by omega, by omega, fun _ _ h => by omega⟩, ⟨rfl⟩, ⟨Below.refl _ _⟩⟩
 case round =>
  obtain ⟨x, rfl, HI, HK, HB⟩ := hrel
  by_cases hlt : x < (l0.length : Int)
  ·
   have h1 : decide (x < (l0.length : Int)) = true := decide_eq_true hlt
   have p1 : 0 ≤ x := HI.out.1
   have HR0 := Aside0.mk (Kd.C_below HR.out HB.out)
   obtain ⟨ad, e1, hx0⟩ := Kd.at_int HR0.out x p1 hlt
   cases e1
   have HX := Aside0.mk (And.intro p1 hlt)
   have HM : Aside0 ((rd l0 x) ∈ l0) := ⟨by obtain ⟨h2, h3⟩ := slices_ContainsFunc_int_int.rd_get l0 x p1 hlt; rw [h3]; exact List.getElem_mem h2⟩
   replace p1 := eq_true p1
   replace hlt := eq_true hlt
   by_cases hp : p (rd l0 x) = true
   ·
    go_wp2_with (go_simp; with_reducible refine (HF.out (rd l0 x) HM.out _ HB.out).mono ?_; rintro e w' ⟨rfl, hb⟩; have HB2 := Aside0.mk hb; clear hb)
    go_ret
    obtain ⟨h2, h3⟩ := slices_ContainsFunc_int_int.rd_get l0 x HX.out.1 HX.out.2
    rw [h3] at hp
    refine ⟨?_, below_step HB.out HB2.out⟩
    rw [Idx.idxFrom_at h2 hp (fun j hj hl => HI.out.2.2 j hj (by omega)), Int.toNat_of_nonneg HX.out.1]; rfl
   ·
    replace hp := Bool.eq_false_iff.mpr hp
    go_wp2_with (go_simp; with_reducible refine (HF.out (rd l0 x) HM.out _ HB.out).mono ?_; rintro e w' ⟨rfl, hb⟩; have HB2 := Aside0.mk hb; clear hb)
    go_roundg (l0.length - (x + 1).toNat)
    case measure => have := HX.out; have := HK.out; omega
    case rel =>
     obtain ⟨h2, h3⟩ := slices_ContainsFunc_int_int.rd_get l0 x HX.out.1 HX.out.2
     have hw : wrap64 (x + 1) = x + 1 := by unfold wrap64; have := HX.out; omega
     refine ⟨x + 1, by first | rfl | rw [hw], ⟨by have := HX.out; omega, by have := HX.out; omega, fun j hj hl => ?_⟩, ⟨rfl⟩, ⟨below_step HB.out HB2.out⟩⟩
     by_cases hjx : (j : Int) < x
     ·
      exact HI.out.2.2 j hj hjx
     ·
      have : j = x.toNat := by omega
      subst this
      rw [← h3]; exact hp
  ·
   have h1 : decide (x < (l0.length : Int)) = false := decide_eq_false hlt
   go_wp2
   go_ret
   refine ⟨?_, HB.out⟩
   rw [Idx.idxFrom_none (fun j hj hl => HI.out.2.2 j hj (by omega))]; rfl
theorem slices_ContainsFunc_int_int.contains (c : Nat) (cs : Array Value) (p : Int → Bool) (A0 : Option Addr) (c0 : Nat) (l0 : List Int) (w : World) (hr0 : Kd.C (Kd.int .i64) w A0 l0.length l0) (hc0 : l0.length ≤ c0)
  (he : ∀ (vs : Array Value) (W : World), (callFunc c vs).run Tryd.prog W = .ok (.enter c vs) W)
  (hf : ∀ (x : Int), x ∈ l0 → ∀ (W : World), Below w.heap.size w W → Calls Tryd.prog c (#[.int .i64 x] ++ cs) W fun e w' => e = .returned (.bool (p x)) ∧ Below W.heap.size W w') :
  Calls Tryd.prog 30 #[.slice A0 l0.length c0, .func (.func c) #[] cs] w fun e w' => e = .returned (.bool (l0.any p)) ∧ Below w.heap.size w w' := by
 have HR0 := Aside0.mk hr0
 have HF := Aside0.mk hf
 clear hr0 hf
 have hz := Aside0.mk (Idx.idx_ge p l0)
 go_enter Tryd.func30, Tryd.ntmps30
 go_wp2_with (go_at_call 55; refine (slices_ContainsFunc_int_int.index c cs p _ _ l0 _ HR0.out hc0 he HF.out).mono ?_; rintro e w' ⟨rfl, hb⟩; have HB := Aside0.mk hb; clear hb)
 go_ret
 exact ⟨by rw [← hz.out]; rfl, HB.out⟩

/-! ### feed_grid_section: function 52 -/
theorem feed_grid_section.within_calls (a b c : Int) (w : World) :
  Calls Tryd.prog 25 #[.int .i64 a, .int .i64 b, .int .i64 c] w fun e w' => e = .returned (.bool (decide (a ≤ b) && decide (b ≤ c))) ∧ Drawn0 w w' := by
 by_cases h1 : a ≤ b
 ·
  have h1' : decide (a ≤ b) = true := decide_eq_true h1
  go_enter Tryd.func25, Tryd.ntmps25
  go_wp2
  go_ret
  exact ⟨by simp [h1], Drawn0.refl _⟩
 ·
  have h1' : decide (a ≤ b) = false := decide_eq_false h1
  go_enter Tryd.func25, Tryd.ntmps25
  go_wp2
  go_ret
  exact ⟨by simp [h1], Drawn0.refl _⟩
def feed_grid_section.bad (n : Int) (x : Int) : Bool := !(decide (0 ≤ x) && decide (x ≤ wrap64 (n - 1)))
set_option maxHeartbeats 2000000 in
set_option maxRecDepth 100000 in
theorem feed_grid_section.clos (n : Int) (g : Nat) (x : Int) (w : World) (hcap : w.cell? ⟨g, 0, none⟩ = some (.int .i64 n)) :
  Calls Tryd.prog 77 #[.int .i64 x, .pointer (some ⟨g, 0, none⟩)] w fun e w' => e = .returned (.bool (feed_grid_section.bad n x)) ∧ Below w.heap.size w w' := by
 have hu0 := Tryd.underlying54
 have hu1 := Tryd.underlying25
 by_cases h0 : (decide (0 ≤ x) && decide (x ≤ wrap64 (n - 1))) = true
 ·
  skip
  have hE : Aside0 ((feed_grid_section.bad n x) = false) := ⟨by simp only [feed_grid_section.bad, h0, Bool.not_true, Bool.false_or]⟩
  have H0 := Aside0.mk h0
  clear h0
  go_enter Tryd.func77, Tryd.ntmps77
  go_wp2_with (first | (go_at_call 25; (with_reducible refine (feed_grid_section.within_calls 0 (x) (wrap64 (n - 1)) _).mono ?_); rintro e w' ⟨rfl, ⟨nd_, rfl⟩⟩; rw [H0.out]))
  go_ret
  exact ⟨by rw [hE.out]; rfl, by repeat (first | exact Below.refl _ _ | apply pw_below_drewN)⟩
 ·
  replace h0 := Bool.eq_false_iff.mpr h0
  have hE : Aside0 ((feed_grid_section.bad n x) = true) := ⟨by simp only [feed_grid_section.bad, h0, Bool.not_true, Bool.not_false, Bool.false_or, Bool.true_or]⟩
  have H0 := Aside0.mk h0
  clear h0
  go_enter Tryd.func77, Tryd.ntmps77
  go_wp2_with (first | (go_at_call 25; (with_reducible refine (feed_grid_section.within_calls 0 (x) (wrap64 (n - 1)) _).mono ?_); rintro e w' ⟨rfl, ⟨nd_, rfl⟩⟩; rw [H0.out]))
  go_ret
  exact ⟨by rw [hE.out]; rfl, by repeat (first | exact Below.refl _ _ | apply pw_below_drewN)⟩
theorem feed_grid_section.enter (vs : Array Value) (W : World) : (callFunc 77 vs).run Tryd.prog W = .ok (.enter 77 vs) W := enters_ Tryd.func77 (by kernel_rfl) (by kernel_rfl) vs W
def feed_grid_section.f (a0_0 : Int) (l0_1 : List S47) (l0_2 : List S49) (l1 : List Int) : Option Int := some (if l1.any (feed_grid_section.bad a0_0) then 2 else 0)
set_option maxHeartbeats 4000000 in
set_option maxRecDepth 100000 in
theorem feed_grid_section.calls (a0_0 : Int) (A0_1 : Option Addr) (c0_1 : Nat) (l0_1 : List S47) (A0_2 : Option Addr) (c0_2 : Nat) (l0_2 : List S49) (A1 : Option Addr) (c1 : Nat) (l1 : List Int) (r : Int) (w : World) (hr0_1 : Kd.C k47 w A0_1 l0_1.length l0_1) (hc0_1 : l0_1.length ≤ c0_1) (hr0_2 : Kd.C k49 w A0_2 l0_2.length l0_2) (hc0_2 : l0_2.length ≤ c0_2) (hr1 : Kd.C (Kd.int .i64) w A1 l1.length l1) (hc1 : l1.length ≤ c1) (h : feed_grid_section.f a0_0 l0_1 l0_2 l1 = some r) :
  Calls Tryd.prog 52 #[.agg #[.int .i64 a0_0, .slice A0_1 l0_1.length c0_1, .slice A0_2 l0_2.length c0_2], .slice A1 l1.length c1] w fun e w' => e = .returned (.int .i64 r) ∧ Below w.heap.size w w' := by
 have hu := Tryd.underlying25
 have hu2 := Tryd.underlying54
 have HR1 := Aside0.mk hr0_1
 have HR2 := Aside0.mk hr0_2
 clear hr0_1 hr0_2
 have HR := Aside0.mk hr1
 clear hr1
 have hB0 : Aside0 (Below w.heap.size w (w.alloc (.cells #[.int .i64 a0_0, .slice A0_1 l0_1.length c0_1, .slice A0_2 l0_2.length c0_2] 54))) := ⟨below_alloc (Below.refl _ _) _⟩
 have hB1 : Aside0 (Below (w.alloc (.cells #[.int .i64 a0_0, .slice A0_1 l0_1.length c0_1, .slice A0_2 l0_2.length c0_2] 54)).heap.size (w.alloc (.cells #[.int .i64 a0_0, .slice A0_1 l0_1.length c0_1, .slice A0_2 l0_2.length c0_2] 54)) (w.alloc (.cells #[.int .i64 a0_0, .slice A0_1 l0_1.length c0_1, .slice A0_2 l0_2.length c0_2] 54))) := ⟨Below.refl _ _⟩
 have hcell : Aside0 (∀ W, Below (w.alloc (.cells #[.int .i64 a0_0, .slice A0_1 l0_1.length c0_1, .slice A0_2 l0_2.length c0_2] 54)).heap.size (w.alloc (.cells #[.int .i64 a0_0, .slice A0_1 l0_1.length c0_1, .slice A0_2 l0_2.length c0_2] 54)) W → ∀ j, W.cell? ⟨w.heap.size, j, none⟩ = (#[.int .i64 a0_0, .slice A0_1 l0_1.length c0_1, .slice A0_2 l0_2.length c0_2] : Array Value)[j]?) := ⟨fun W hb j => by
  rw [hb.cell (by show w.heap.size < (w.heap.push _).size; rw [Array.size_push]; omega), World.cell?_alloc_at _ _ _ _ rfl]⟩
 obtain rfl := Option.some.inj h
 clear h
 by_cases h3 : l1.any (feed_grid_section.bad a0_0) = true
 ·
  rw [if_pos h3]
  have H3 := Aside0.mk h3
  clear h3
  go_enter Tryd.func52, Tryd.ntmps52
  go_wp2_with (go_at_call 30; (refine (slices_ContainsFunc_int_int.contains 77 #[.pointer (some ⟨w.heap.size, 0, none⟩)] (feed_grid_section.bad a0_0) A1 c1 l1 _ (Kd.C_below HR.out hB0.out) hc1 feed_grid_section.enter (fun x _ W hb => feed_grid_section.clos a0_0 w.heap.size x W (hcell.out W (below_step hB1.out hb) 0))).mono ?_); rintro e w' ⟨rfl, hb⟩; have HB := Aside0.mk (below_step hB0.out hb); clear hb; rw [H3.out])
  go_ret
  exact ⟨rfl, HB.out⟩
 ·
  replace h3 := Bool.eq_false_iff.mpr h3
  rw [if_neg (by rw [h3]; decide)]
  have H3 := Aside0.mk h3
  clear h3
  go_enter Tryd.func52, Tryd.ntmps52
  go_wp2_with (go_at_call 30; (refine (slices_ContainsFunc_int_int.contains 77 #[.pointer (some ⟨w.heap.size, 0, none⟩)] (feed_grid_section.bad a0_0) A1 c1 l1 _ (Kd.C_below HR.out hB0.out) hc1 feed_grid_section.enter (fun x _ W hb => feed_grid_section.clos a0_0 w.heap.size x W (hcell.out W (below_step hB1.out hb) 0))).mono ?_); rintro e w' ⟨rfl, hb⟩; have HB := Aside0.mk (below_step hB0.out hb); clear hb; rw [H3.out])
  go_ret
  exact ⟨rfl, HB.out⟩

/-! ### feed_asked: function 40 -/
def feed_asked.f (a0_0 : Int) (l0_1 : List (S47)) (l0_2 : List (S49)) (a1 : Int) (a2 : Int) : Option (Int × Int) := (feed_open.f a0_0 l0_1 l0_2 a1).bind fun bt164 => (if bt164.2 = 0 then ((feed_grid_section.f bt164.1 l0_1 l0_2 (([a2] : List Int))).bind fun t176 => (some (bt164.1, t176))) else (some (bt164.1, bt164.2)))
set_option maxHeartbeats 8000000 in
set_option maxRecDepth 100000 in
theorem feed_asked.calls (a0_0 : Int) (A0_1 : Option Addr) (c0_1 : Nat) (l0_1 : List (S47)) (A0_2 : Option Addr) (c0_2 : Nat) (l0_2 : List (S49)) (a1 : Int) (a2 : Int) (r1 : Int) (r2 : Int) (w : World) (hr0_1 : Kd.C k47 w A0_1 l0_1.length l0_1) (hc0_1 : l0_1.length ≤ c0_1) (hr0_2 : Kd.C k49 w A0_2 l0_2.length l0_2) (hc0_2 : l0_2.length ≤ c0_2) (h : feed_asked.f a0_0 l0_1 l0_2 a1 a2 = some (r1, r2)) :
  Calls Tryd.prog 40 #[.agg #[.int .i64 a0_0, .slice A0_1 l0_1.length c0_1, .slice A0_2 l0_2.length c0_2], .int .i64 a1, .int .i64 a2] w fun e w' => e = .returned (.tuple #[.agg #[.int .i64 r1, .slice A0_1 l0_1.length c0_1, .slice A0_2 l0_2.length c0_2], .int .i64 r2]) ∧ Below w.heap.size w w' := by
 have hu25 := Tryd.underlying25
 have hu54 := Tryd.underlying54
 have HR0_1 := Aside0.mk hr0_1
 have HC0_1 := Aside0.mk hc0_1
 clear hr0_1 hc0_1
 have HR0_2 := Aside0.mk hr0_2
 have HC0_2 := Aside0.mk hc0_2
 clear hr0_2 hc0_2
 have HB := Aside0.mk (Below.refl w.heap.size w)
 have H : ((feed_open.f a0_0 l0_1 l0_2 a1).bind fun bt164 => (if bt164.2 = 0 then ((feed_grid_section.f bt164.1 l0_1 l0_2 (([a2] : List Int))).bind fun t176 => (some (bt164.1, t176))) else (some (bt164.1, bt164.2)))) = some (r1, r2) := h
 clear h
 replace H := Option.bind_eq_some_iff.mp H
 obtain ⟨⟨t164, t171⟩, A40, H⟩ := H
 try dsimp only at H
 have A4 := Aside0.mk A40
 clear A40
 by_cases c5 : t171 = 0
 ·
  rw [if_pos c5] at H
  have c5b0 : (t171 == 0) = true := beq_iff_eq.mpr c5
  have c5b1 : (t171 != 0) = false := bne_eq_false_iff_eq.mpr c5
  clear c5
  obtain ⟨y173, hy173⟩ : ∃ y_ : List Int, y_ = (([a2] : List Int)) := ⟨_, rfl⟩
  replace H : ((feed_grid_section.f t164 l0_1 l0_2 y173).bind fun t176 => (some (t164, t176))) = some (r1, r2) := by first | (rw [hy173]; with_reducible exact H) | (have H2_ := (Option.bind_some _ _).symm.trans H; rw [hy173]; with_reducible exact H2_) | (have H2_ := (Option.bind_some _ _).symm.trans H; with_reducible exact H2_) | with_reducible exact H | (rw [hy173]; exact H) | exact H
  have Ny173 := Aside0.mk hy173
  clear hy173
  replace H := Option.bind_eq_some_iff.mp H
  obtain ⟨t176, A60, H⟩ := H
  try dsimp only at H
  have A6 := Aside0.mk A60
  clear A60
  simp only [Option.some.injEq, Prod.mk.injEq] at H
  obtain ⟨rfl, rfl⟩ := H
  go_enter Tryd.func40, Tryd.ntmps40
  go_wp2_with (first | ((with_reducible refine gate_dst (N := 3) rfl ?_); refine box_event ?hg (N := 3) ?hd (cs := #[.int .i64 a0_0, .slice A0_1 l0_1.length c0_1, .slice A0_2 l0_2.length c0_2]) (t := 25) ?hr ?_; (case hd => rfl); (case hg => rfl); (case hr => first | (go_simp; done) | (go_simp; rfl)); intro gb162 hg w7 hbox hb; have BK162 := Aside0.mk (hbox); have GW162 := bsz (w := w) hg; have GE162 := GW162; replace HB := Aside0.mk (below_step bel hb); clear hb hbox hg) | ((with_reducible refine gate_dst (N := 6) rfl ?_); refine box_event ?hg (N := 6) ?hd (cs := #[.int .i64 0, .slice none 0 0, .slice none 0 0]) (t := 54) ?hr ?_; (case hd => rfl); (case hg => rfl); (case hr => first | (go_simp; done) | (go_simp; rfl)); intro gb163 hg w8 hbox hb; have BK163 := Aside0.mk (hbox); have GW163 := bsz (w := w) hg; have GE163 := GW163; have NB162_163 := neL (g := gb162) hg; have NB163_162 := neR (g := gb162) hg; replace BK162 := Aside0.mk (blk_below (g := gb162) blkz hb); replace HB := Aside0.mk (below_step bel hb); clear hb hbox hg; have hnb9 := NB162_163.out; have hnc9 := NB163_162.out; obtain ⟨hcz10_0, hcz10_1, hcz10_2⟩ := bc3 BK162.out) | ((with_reducible refine gate_callee (f := 37) rfl ?_); refine goesL_ (some 13) rfl rfl Tryd.func37 (by kernel_rfl) rfl #[.agg #[.int .i64 a0_0, .slice A0_1 l0_1.length c0_1, .slice A0_2 l0_2.length c0_2], .int .i64 a1] rfl mapz ?_; (with_reducible refine (feed_open.calls a0_0 _ _ l0_1 _ _ l0_2 a1 t164 t171 _ (cbz HR0_1) HC0_1.out (cbz HR0_2) HC0_2.out A4.out).mono ?_); rintro e w11 ⟨rfl, hb⟩; refine ⟨_, rfl, ?_⟩; replace BK162 := Aside0.mk (blk_below (g := gb162) blkz hb); replace BK163 := Aside0.mk (blk_below (g := gb163) blkz hb); replace HB := Aside0.mk (below_step bel hb); clear hb) | ((with_reducible refine gate_dst (N := 8) rfl ?_); refine box_event ?hg (N := 8) ?hd (cs := #[.int .i64 0, .slice none 0 0, .slice none 0 0]) (t := 54) ?hr ?_; (case hd => rfl); (case hg => rfl); (case hr => first | (go_simp; done) | (go_simp; rfl)); intro gb172 hg w12 hbox hb; have BK172 := Aside0.mk (hbox); have GW172 := bsz (w := w) hg; have GE172 := GW172; have NB162_172 := neL (g := gb162) hg; have NB172_162 := neR (g := gb162) hg; have NB163_172 := neL (g := gb163) hg; have NB172_163 := neR (g := gb163) hg; replace BK162 := Aside0.mk (blk_below (g := gb162) blkz hb); replace BK163 := Aside0.mk (blk_below (g := gb163) blkz hb); replace HB := Aside0.mk (below_step bel hb); clear hb hbox hg; have hnb13 := NB172_162.out; have hnc13 := NB162_172.out; have hnb14 := NB172_163.out; have hnc14 := NB163_172.out; obtain ⟨hcz15_0, hcz15_1, hcz15_2⟩ := bc3 BK172.out; obtain ⟨hfz15_0, hfz15_1, hfz15_2⟩ := bf3 BK172.out) | ((with_reducible refine gate_dst (N := 20) rfl ?_); refine Kd.R_lit (Kd.int .i64) _ 3 ?hg (N := 20) ?hd (xs := ([a2] : List Int)) (inner := [.int .i64 a2]) (ok := fun _ => True) (okp := fun _ => True) ?hr ?hp (fun _ hk => hk) trivial (Below.refl _ _) (Nat.le_refl _) (by simp) ?_; (case hd => rfl); (case hg => rfl); (case hr => first | (go_simp; done) | (go_simp; rfl)); (case hp => exact (Reps.one (show Kd.M (Kd.int .i64) _ _ _ a2 [.int .i64 a2] from rfl) (Reps.none _ _))); intro v174 w16 ho17 hb hg_ hnew_; clear hg_ hnew_; (first | rw [← Ny173.out] at ho17 | (simp only [Int.reduceToNat] at ho17; rw [← Ny173.out] at ho17)); have HO175 := Aside0.mk (Kd.R_lower ho17 (below_size bel)); replace BK162 := Aside0.mk (blk_below (g := gb162) (o := .cells #[.int .i64 a0_0, .slice A0_1 l0_1.length c0_1, .slice A0_2 l0_2.length c0_2] 25 (0, 0)) (by (with_reducible repeat (first | refine blk_drewN ?_ _ | refine blk_drew ?_ | refine blk_alloc ?_ _)); refine blk_far ?_ NB162_172.out _; (with_reducible repeat (first | refine blk_drewN ?_ _ | refine blk_drew ?_ | refine blk_alloc ?_ _)); refine blk_far ?_ NB162_172.out _; (with_reducible repeat (first | refine blk_drewN ?_ _ | refine blk_drew ?_ | refine blk_alloc ?_ _)); refine blk_far ?_ NB162_172.out _; (with_reducible repeat (first | refine blk_drewN ?_ _ | refine blk_drew ?_ | refine blk_alloc ?_ _)); exact BK162.out) hb); replace BK163 := Aside0.mk (blk_below (g := gb163) (o := .cells #[.int .i64 0, .slice none 0 0, .slice none 0 0] 54 (0, 0)) (by (with_reducible repeat (first | refine blk_drewN ?_ _ | refine blk_drew ?_ | refine blk_alloc ?_ _)); refine blk_far ?_ NB163_172.out _; (with_reducible repeat (first | refine blk_drewN ?_ _ | refine blk_drew ?_ | refine blk_alloc ?_ _)); refine blk_far ?_ NB163_172.out _; (with_reducible repeat (first | refine blk_drewN ?_ _ | refine blk_drew ?_ | refine blk_alloc ?_ _)); refine blk_far ?_ NB163_172.out _; (with_reducible repeat (first | refine blk_drewN ?_ _ | refine blk_drew ?_ | refine blk_alloc ?_ _)); exact BK163.out) hb); replace BK172 := Aside0.mk (blk_below (g := gb172) (o := .cells #[.int .i64 t164, .slice A0_1 l0_1.length c0_1, .slice A0_2 l0_2.length c0_2] 54 (0, 0)) (by (with_reducible repeat (first | refine blk_drewN ?_ _ | refine blk_drew ?_ | refine blk_alloc ?_ _)); refine blk_put (cs := #[.int .i64 t164, .slice A0_1 l0_1.length c0_1, .slice none 0 0]) ?_ 2 _ rfl; (with_reducible repeat (first | refine blk_drewN ?_ _ | refine blk_drew ?_ | refine blk_alloc ?_ _)); refine blk_put (cs := #[.int .i64 t164, .slice none 0 0, .slice none 0 0]) ?_ 1 _ rfl; (with_reducible repeat (first | refine blk_drewN ?_ _ | refine blk_drew ?_ | refine blk_alloc ?_ _)); refine blk_put (cs := #[.int .i64 0, .slice none 0 0, .slice none 0 0]) ?_ 0 _ rfl; (with_reducible repeat (first | refine blk_drewN ?_ _ | refine blk_drew ?_ | refine blk_alloc ?_ _)); exact BK172.out) hb); replace HB := Aside0.mk (below_step bel hb); clear hb ho17; obtain ⟨Ao18, co18, eo18⟩ := Kd.R_slice HO175.out; subst eo18) | ((with_reducible refine gate_callee (f := 52) rfl ?_); refine goesL_ (some 21) rfl rfl Tryd.func52 (by kernel_rfl) rfl #[.agg #[.int .i64 t164, .slice A0_1 l0_1.length c0_1, .slice A0_2 l0_2.length c0_2], .slice Ao18 y173.length co18] rfl mapz ?_; (with_reducible refine (feed_grid_section.calls t164 _ _ l0_1 _ _ l0_2 _ _ y173 t176 _ (cbz HR0_1) HC0_1.out (cbz HR0_2) HC0_2.out ?side5 ?side6 A6.out).mono ?_); (case side5 => repeat (first | exact (Kd.R_reads' HO175.out).2.2 | (with_reducible refine Kd.C_alloc ?_ _) | (with_reducible refine Kd.C_drewN ?_ _) | (with_reducible refine Kd.C_drew ?_))); (case side6 => exact (Kd.R_reads' HO175.out).2.1); rintro e w19 ⟨rfl, hb⟩; refine ⟨_, rfl, ?_⟩; replace HO175 := Aside0.mk (Kd.R_below (ownx HO175) hb); replace BK162 := Aside0.mk (blk_below (g := gb162) blkz hb); replace BK163 := Aside0.mk (blk_below (g := gb163) blkz hb); replace BK172 := Aside0.mk (blk_below (g := gb172) blkz hb); replace HB := Aside0.mk (below_step bel hb); clear hb; obtain ⟨hcz20_0, hcz20_1, hcz20_2⟩ := bc3 BK172.out; obtain ⟨hfz20_0, hfz20_1, hfz20_2⟩ := bf3 BK172.out; obtain ⟨hcz21_0, hcz21_1, hcz21_2⟩ := bc3 BK163.out; obtain ⟨hfz21_0, hfz21_1, hfz21_2⟩ := bf3 BK163.out))
  refine bodyPost_ret (results_ct rfl _ _ gb163 54 #[.int .i64 t164, .slice A0_1 l0_1.length c0_1, .slice A0_2 l0_2.length c0_2] (0, 0) _ rfl (by (with_reducible repeat (first | refine blk_drewN ?_ _ | refine blk_drew ?_ | refine blk_alloc ?_ _)); refine blk_put (cs := #[.int .i64 t164, .slice A0_1 l0_1.length c0_1, .slice none 0 0]) ?_ 2 _ rfl; (with_reducible repeat (first | refine blk_drewN ?_ _ | refine blk_drew ?_ | refine blk_alloc ?_ _)); refine blk_put (cs := #[.int .i64 t164, .slice none 0 0, .slice none 0 0]) ?_ 1 _ rfl; (with_reducible repeat (first | refine blk_drewN ?_ _ | refine blk_drew ?_ | refine blk_alloc ?_ _)); refine blk_put (cs := #[.int .i64 0, .slice none 0 0, .slice none 0 0]) ?_ 0 _ rfl; (with_reducible repeat (first | refine blk_drewN ?_ _ | refine blk_drew ?_ | refine blk_alloc ?_ _)); exact BK163.out) Tryd.underlying54 rfl (by kernel_rfl)) rfl ?_
  exact ⟨ezz, bel⟩
 ·
  rw [if_neg c5] at H
  have c5b0 : (t171 == 0) = false := beq_eq_false_iff_ne.mpr c5
  have c5b1 : (t171 != 0) = true := bne_iff_ne.mpr c5
  simp only [Option.some.injEq, Prod.mk.injEq] at H
  obtain ⟨rfl, rfl⟩ := H
  go_enter Tryd.func40, Tryd.ntmps40
  go_wp2_with (first | ((with_reducible refine gate_dst (N := 3) rfl ?_); refine box_event ?hg (N := 3) ?hd (cs := #[.int .i64 a0_0, .slice A0_1 l0_1.length c0_1, .slice A0_2 l0_2.length c0_2]) (t := 25) ?hr ?_; (case hd => rfl); (case hg => rfl); (case hr => first | (go_simp; done) | (go_simp; rfl)); intro gb162 hg w22 hbox hb; have BK162 := Aside0.mk (hbox); have GW162 := bsz (w := w) hg; have GE162 := GW162; replace HB := Aside0.mk (below_step bel hb); clear hb hbox hg) | ((with_reducible refine gate_dst (N := 6) rfl ?_); refine box_event ?hg (N := 6) ?hd (cs := #[.int .i64 0, .slice none 0 0, .slice none 0 0]) (t := 54) ?hr ?_; (case hd => rfl); (case hg => rfl); (case hr => first | (go_simp; done) | (go_simp; rfl)); intro gb163 hg w23 hbox hb; have BK163 := Aside0.mk (hbox); have GW163 := bsz (w := w) hg; have GE163 := GW163; have NB162_163 := neL (g := gb162) hg; have NB163_162 := neR (g := gb162) hg; replace BK162 := Aside0.mk (blk_below (g := gb162) blkz hb); replace HB := Aside0.mk (below_step bel hb); clear hb hbox hg; have hnb24 := NB162_163.out; have hnc24 := NB163_162.out; obtain ⟨hcz25_0, hcz25_1, hcz25_2⟩ := bc3 BK162.out) | ((with_reducible refine gate_callee (f := 37) rfl ?_); refine goesL_ (some 13) rfl rfl Tryd.func37 (by kernel_rfl) rfl #[.agg #[.int .i64 a0_0, .slice A0_1 l0_1.length c0_1, .slice A0_2 l0_2.length c0_2], .int .i64 a1] rfl mapz ?_; (with_reducible refine (feed_open.calls a0_0 _ _ l0_1 _ _ l0_2 a1 t164 t171 _ (cbz HR0_1) HC0_1.out (cbz HR0_2) HC0_2.out A4.out).mono ?_); rintro e w26 ⟨rfl, hb⟩; refine ⟨_, rfl, ?_⟩; replace BK162 := Aside0.mk (blk_below (g := gb162) blkz hb); replace BK163 := Aside0.mk (blk_below (g := gb163) blkz hb); replace HB := Aside0.mk (below_step bel hb); clear hb) | ((with_reducible refine gate_dst (N := 8) rfl ?_); refine box_event ?hg (N := 8) ?hd (cs := #[.int .i64 0, .slice none 0 0, .slice none 0 0]) (t := 54) ?hr ?_; (case hd => rfl); (case hg => rfl); (case hr => first | (go_simp; done) | (go_simp; rfl)); intro gb172 hg w27 hbox hb; have BK172 := Aside0.mk (hbox); have GW172 := bsz (w := w) hg; have GE172 := GW172; have NB162_172 := neL (g := gb162) hg; have NB172_162 := neR (g := gb162) hg; have NB163_172 := neL (g := gb163) hg; have NB172_163 := neR (g := gb163) hg; replace BK162 := Aside0.mk (blk_below (g := gb162) blkz hb); replace BK163 := Aside0.mk (blk_below (g := gb163) blkz hb); replace HB := Aside0.mk (below_step bel hb); clear hb hbox hg; have hnb28 := NB172_162.out; have hnc28 := NB162_172.out; have hnb29 := NB172_163.out; have hnc29 := NB163_172.out; obtain ⟨hcz30_0, hcz30_1, hcz30_2⟩ := bc3 BK172.out; obtain ⟨hfz30_0, hfz30_1, hfz30_2⟩ := bf3 BK172.out; obtain ⟨hcz31_0, hcz31_1, hcz31_2⟩ := bc3 BK163.out; obtain ⟨hfz31_0, hfz31_1, hfz31_2⟩ := bf3 BK163.out))
  refine bodyPost_ret (results_ct rfl _ _ gb163 54 #[.int .i64 t164, .slice A0_1 l0_1.length c0_1, .slice A0_2 l0_2.length c0_2] (0, 0) _ rfl (by (with_reducible repeat (first | refine blk_drewN ?_ _ | refine blk_drew ?_ | refine blk_alloc ?_ _)); refine blk_put (cs := #[.int .i64 t164, .slice A0_1 l0_1.length c0_1, .slice none 0 0]) ?_ 2 _ rfl; (with_reducible repeat (first | refine blk_drewN ?_ _ | refine blk_drew ?_ | refine blk_alloc ?_ _)); refine blk_put (cs := #[.int .i64 t164, .slice none 0 0, .slice none 0 0]) ?_ 1 _ rfl; (with_reducible repeat (first | refine blk_drewN ?_ _ | refine blk_drew ?_ | refine blk_alloc ?_ _)); refine blk_put (cs := #[.int .i64 0, .slice none 0 0, .slice none 0 0]) ?_ 0 _ rfl; (with_reducible repeat (first | refine blk_drewN ?_ _ | refine blk_drew ?_ | refine blk_alloc ?_ _)); refine blk_far ?_ NB163_172.out _; (with_reducible repeat (first | refine blk_drewN ?_ _ | refine blk_drew ?_ | refine blk_alloc ?_ _)); refine blk_far ?_ NB163_172.out _; (with_reducible repeat (first | refine blk_drewN ?_ _ | refine blk_drew ?_ | refine blk_alloc ?_ _)); refine blk_far ?_ NB163_172.out _; (with_reducible repeat (first | refine blk_drewN ?_ _ | refine blk_drew ?_ | refine blk_alloc ?_ _)); exact BK163.out) Tryd.underlying54 rfl (by kernel_rfl)) rfl ?_
  exact ⟨ezz, bel⟩

/-! ### feed_grid_atHome: function 41 -/
def feed_grid_atHome.p (n : Int) (x : S49) : Bool := x.f0 == n
set_option maxHeartbeats 2000000 in
set_option maxRecDepth 100000 in
theorem feed_grid_atHome.clos (n : Int) (g : Nat) (x : S49) (w : World) (hcap : w.cell? ⟨g, 0, none⟩ = some (.int .i64 n)) :
  Calls Tryd.prog 59 #[.agg #[.int .i64 x.f0, .int .i64 x.f1], .pointer (some ⟨g, 0, none⟩)] w fun e w' => e = .returned (.bool (feed_grid_atHome.p n x)) ∧ Below w.heap.size w w' := by
 have hu := Tryd.underlying49
 have hB : ∀ o n, Aside0 (Below w.heap.size w ((w.alloc o).drewN n)) := fun o n => ⟨pw_below_drewN (below_alloc (Below.refl _ _) o) n⟩
 have hB0 : ∀ o, Aside0 (Below w.heap.size w (w.alloc o)) := fun o => ⟨below_alloc (Below.refl _ _) o⟩
 have hg : g < w.heap.size := by
  unfold World.cell? at hcap
  split at hcap
  ·
   rename_i h; exact (Array.getElem?_eq_some_iff.1 h).1
  ·
   cases hcap
 have hcap2 : ∀ o, (w.alloc o).cell? ⟨g, 0, none⟩ = some (.int .i64 n) := fun o => by rw [← hcap]; exact ((below_alloc (Below.refl w.heap.size w) o).cell hg)
 go_enter Tryd.func59, Tryd.ntmps59
 go_wp2
 go_ret
 exact ⟨rfl, by repeat (first | exact (hB _ _).out | exact (hB0 _).out | apply pw_below_drewN)⟩
theorem feed_grid_atHome.enter (vs : Array Value) (W : World) : (callFunc 59 vs).run Tryd.prog W = .ok (.enter 59 vs) W := enters_ Tryd.func59 (by kernel_rfl) (by kernel_rfl) vs W
def feed_grid_atHome.f (a0_0 : Int) (l0_1 : List S47) (l0_2 : List S49) (a1 : Int) : Option Bool := some (l0_2.any (feed_grid_atHome.p a1))
set_option maxHeartbeats 4000000 in
set_option maxRecDepth 100000 in
theorem feed_grid_atHome.calls (a0_0 : Int) (A0_1 : Option Addr) (c0_1 : Nat) (l0_1 : List S47) (A0_2 : Option Addr) (c0_2 : Nat) (l0_2 : List S49) (a1 : Int) (r : Bool) (w : World) (hr0_1 : Kd.C k47 w A0_1 l0_1.length l0_1) (hc0_1 : l0_1.length ≤ c0_1) (hr0_2 : Kd.C k49 w A0_2 l0_2.length l0_2) (hc0_2 : l0_2.length ≤ c0_2) (h : feed_grid_atHome.f a0_0 l0_1 l0_2 a1 = some r) :
  Calls Tryd.prog 41 #[.agg #[.int .i64 a0_0, .slice A0_1 l0_1.length c0_1, .slice A0_2 l0_2.length c0_2], .int .i64 a1] w fun e w' => e = .returned (.bool r) ∧ Below w.heap.size w w' := by
 have hu := Tryd.underlying25
 have hu2 := Tryd.underlying54
 have HR1 := Aside0.mk hr0_1
 have HR2 := Aside0.mk hr0_2
 clear hr0_1 hr0_2
 have hB0 : Aside0 (Below w.heap.size w ((w.alloc (.cells #[.int .i64 a0_0, .slice A0_1 l0_1.length c0_1, .slice A0_2 l0_2.length c0_2] 54)).alloc (.cells #[.int .i64 a1] 3))) := ⟨below_alloc (below_alloc (Below.refl _ _) _) _⟩
 have hs : (w.alloc (.cells #[.int .i64 a0_0, .slice A0_1 l0_1.length c0_1, .slice A0_2 l0_2.length c0_2] 54)).heap.size = w.heap.size + 1 := Array.size_push ..
 have hcell : Aside0 (∀ W, Below ((w.alloc (.cells #[.int .i64 a0_0, .slice A0_1 l0_1.length c0_1, .slice A0_2 l0_2.length c0_2] 54)).alloc (.cells #[.int .i64 a1] 3)).heap.size ((w.alloc (.cells #[.int .i64 a0_0, .slice A0_1 l0_1.length c0_1, .slice A0_2 l0_2.length c0_2] 54)).alloc (.cells #[.int .i64 a1] 3)) W → W.cell? ⟨w.heap.size + 1, 0, none⟩ = some (.int .i64 a1)) := ⟨fun W hb => by
  rw [hb.cell (by show w.heap.size + 1 < ((w.alloc (.cells #[.int .i64 a0_0, .slice A0_1 l0_1.length c0_1, .slice A0_2 l0_2.length c0_2] 54)).heap.push _).size; rw [Array.size_push]; omega), World.cell?_alloc_at _ _ _ _ hs.symm]; rfl⟩
 obtain rfl := Option.some.inj h
 clear h
 go_enter Tryd.func41, Tryd.ntmps41
 go_wp2_with (go_at_call 50; (refine (slices_ContainsFunc_api_Feeder_api_Feeder.contains 59 #[.pointer (some ⟨w.heap.size + 1, 0, none⟩)] (feed_grid_atHome.p a1) A0_2 c0_2 l0_2 _ (Kd.C_below HR2.out hB0.out) hc0_2 feed_grid_atHome.enter (fun x _ W hb => feed_grid_atHome.clos a1 (w.heap.size + 1) x W (hcell.out W hb))).mono ?_); rintro e w' ⟨rfl, hb⟩; have HB := Aside0.mk (below_step hB0.out hb); clear hb)
 go_ret
 exact ⟨rfl, HB.out⟩

/-! ### bits_TrailingZeros64: function 80 -/
def bits_TrailingZeros64.at_ (a0 : Int) : Int := IntKind.u64.wrap (Go.bits .and .u64 a0 (IntKind.u64.wrap (-a0)) * 285870213051353865) / 288230376151711744
def bits_TrailingZeros64.f (a0 : Int) : Option Int := if a0 = 0 then some 64 else some (rd Tab.tab64 (bits_TrailingZeros64.at_ a0))
set_option maxHeartbeats 4000000 in
set_option maxRecDepth 100000 in
theorem bits_TrailingZeros64.calls (a0 : Int) (r : Int) (w : World) (hT : Tab.Tabs w) (h : bits_TrailingZeros64.f a0 = some r) :
  Calls Tryd.prog 80 #[.int .u64 a0] w fun e w' => e = .returned (.int .i64 r) ∧ Drawn0 w w' := by
 unfold bits_TrailingZeros64.f at h
 by_cases h0 : a0 = 0
 ·
  subst h0
  obtain rfl := Option.some.inj h
  go_enter Tryd.func80, Tryd.ntmps80
  go_wp2
  go_ret
  exact ⟨rfl, by repeat (first | exact Drawn0.refl _ | apply Drawn0.step)⟩
 ·
  rw [if_neg h0] at h
  have k0 : decide (a0 = 0) = false := decide_eq_false h0
  have k1 : (a0 == 0) = false := by simpa using h0
  obtain rfl := Option.some.inj h
  clear h
  have hb : 0 ≤ bits_TrailingZeros64.at_ a0 ∧ bits_TrailingZeros64.at_ a0 < 64 := by
   unfold bits_TrailingZeros64.at_
   generalize Go.bits .and .u64 a0 (IntKind.u64.wrap (-a0)) * 285870213051353865 = z
   have h1 : IntKind.u64.wrap z = z % 18446744073709551616 := by simp [IntKind.wrap, IntKind.bits, IntKind.signed]
   rw [h1]
   omega
  have hv := Tab.val hb.1 hb.2
  have hc := hT (bits_TrailingZeros64.at_ a0).toNat (by omega)
  rw [Tab.rd_tab hb.1] at hc
  have HE : Aside0 (rd Tab.tab64 (bits_TrailingZeros64.at_ a0) = rd Tab.tab64 (bits_TrailingZeros64.at_ a0)) := ⟨rfl⟩
  unfold bits_TrailingZeros64.at_ at hb hc
  generalize hg : rd Tab.tab64 (IntKind.u64.wrap (Go.bits .and .u64 a0 (IntKind.u64.wrap (-a0)) * 285870213051353865) / 288230376151711744) = v at hc
  have hgv : rd Tab.tab64 (bits_TrailingZeros64.at_ a0) = v := hg
  rw [hgv] at hv ⊢
  have hw : IntKind.i64.wrap v = v := by rw [IntKind.wrap_i64]; omega
  have hb1 := eq_true hb.1
  have hb2 := eq_true hb.2
  clear hb hg hgv HE hT hv
  go_enter Tryd.func80, Tryd.ntmps80
  go_wp2
  go_ret
  exact ⟨rfl, by repeat (first | exact Drawn0.refl _ | apply Drawn0.step)⟩

/-! ### bits_TrailingZeros: function 60 -/
def bits_TrailingZeros.f (a0 : Int) : Option (Int) := (bits_TrailingZeros64.f a0).bind fun t177 => (some t177)
set_option maxHeartbeats 8000000 in
set_option maxRecDepth 100000 in
theorem bits_TrailingZeros.calls (a0 : Int) (r : Int) (w : World) (hT : Tab.Tabs w) (h : bits_TrailingZeros.f a0 = some r) :
  Calls Tryd.prog 60 #[.int .u64 a0] w fun e w' => e = .returned (.int .i64 r) ∧ Drawn0 w w' := by
 have HT := Aside0.mk hT
 clear hT
 have H : ((bits_TrailingZeros64.f a0).bind fun t177 => (some t177)) = some r := h
 clear h
 replace H := Option.bind_eq_some_iff.mp H
 obtain ⟨t177, A20, H⟩ := H
 try dsimp only at H
 have A2 := Aside0.mk A20
 clear A20
 obtain rfl := Option.some.inj H
 go_enter Tryd.func60, Tryd.ntmps60
 go_wp2_with (first | ((with_reducible refine gate_callee (f := 80) rfl ?_); refine goesL_ (some 7) rfl rfl Tryd.func80 (by kernel_rfl) rfl #[.int .u64 a0] rfl mapz ?_; (with_reducible refine (bits_TrailingZeros64.calls a0 t177 _ (tbz HT) A2.out).mono ?_); rintro e w' ⟨rfl, ⟨nd, rfl⟩⟩; refine ⟨_, rfl, ?_⟩))
 go_ret
 exact ⟨by first | rfl | (simp; done) | (simp [*]; done), drz⟩

/-! ### feed_list: function 42 -/
def feed_list.l0 : Nat → Int → List Int → Option (List Int)
 | 0, _, _ => none
 | k + 1, x0, x3 => if x0 > 0 then ((bits_TrailingZeros.f (IntKind.u64.wrap (x0))).bind fun t178 => (if x3.length < 17592186044416 then (feed_list.l0 k (Go.bits .and .i64 x0 (wrap64 (x0 - 1))) (x3 ++ [t178])) else (none))) else (some x3)
def feed_list.f (k : Nat) (a0 : Int) : Option (List Int) := feed_list.l0 k a0 ([] : List Int)
theorem feed_list.mono_l : ∀ k, (∀ y0 y1, LeO (feed_list.l0 k y0 y1) (feed_list.l0 (k + 1) y0 y1))
 | 0 => fun _ _ r h => by simp [feed_list.l0] at h
 | k + 1 => by
  have ih0 := feed_list.mono_l k
  ·
   intro y0 y1
   unfold feed_list.l0
   repeat' first
   | (with_reducible exact ih0 _ _)
   | (with_reducible exact LeO.refl _)
   | (with_reducible exact LeO.none _)
   | (with_reducible refine LeO.ite ?_ ?_)
   | (with_reducible refine LeO.bind ?_ (fun _ => ?_))
   | exact ih0 _ _
   | exact LeO.none _
   | refine LeO.ite ?_ ?_
   | refine LeO.bind ?_ (fun _ => ?_)
theorem feed_list.mono : ∀ a0 k, LeO (feed_list.f k a0) (feed_list.f (k + 1) a0) := by
 intro a0 k
 have ih0 := feed_list.mono_l k
 unfold feed_list.f
 repeat' first
   | (with_reducible exact ih0 _ _)
   | (with_reducible exact LeO.refl _)
   | (with_reducible exact LeO.none _)
   | (with_reducible refine LeO.ite ?_ ?_)
   | (with_reducible refine LeO.bind ?_ (fun _ => ?_))
   | exact ih0 _ _
   | exact LeO.none _
   | refine LeO.ite ?_ ?_
   | refine LeO.bind ?_ (fun _ => ?_)
set_option maxHeartbeats 8000000 in
set_option maxRecDepth 100000 in
theorem feed_list.calls (k : Nat) (a0 : Int) (r : List Int) (w : World) (hT : Tab.Tabs w) (h : feed_list.f k a0 = some r) :
  Calls Tryd.prog 42 #[.int .i64 a0] w fun e w' => ∃ v0_ : Value, e = .returned (v0_) ∧ Kd.R (Kd.int .i64) 3 w' w.heap.size (fun _ => True) v0_ r ∧ Below w.heap.size w w' := by
 have HT := Aside0.mk hT
 clear hT
 have HB := Aside0.mk (Below.refl w.heap.size w)
 have H : (feed_list.l0 k a0 ([] : List Int)) = some r := h
 clear h
 have H' := Aside0.mk H
 clear H
 go_enter Tryd.func42, Tryd.ntmps42
 go_wp2
 go_loopg [0, 3] k (fun kq v0 v3 w' => ∃ (x0_1 : Int) (x3_1 : List Int), v0 = .int .i64 x0_1 ∧ Aside0 (feed_list.l0 kq x0_1 x3_1 = some r) ∧ Aside0 (kq ≤ k) ∧ Aside0 (Kd.R (Kd.int .i64) 3 w' w.heap.size (fun _ => True) v3 x3_1) ∧ Aside0 (Below w.heap.size w w'))
 case atStart => exact ⟨(a0), (([] : List Int)), rsz, H', ⟨Nat.le_refl _⟩, ⟨by first | exact Kd.R_nil _ _ _ _ _ | exact Kd.N_nil _ _ _ _ _ | exact Kd.V_nil _ _ _ _ _ | exact Kd.Q_nil _ _ _ _ _ | exact Kd.S_nil _ _ _ _ _⟩, ⟨bel⟩⟩
 case round =>
  clear H'
  obtain ⟨x0_1, x3_1, rfl, HA, HK1, HO_3, HB⟩ := hrel
  cases gk with
  | zero => exact absurd HA.out (by simp [feed_list.l0])
  | succ k1 =>
   have H := HA.out
   clear HA
   simp only [feed_list.l0] at H
   by_cases c2 : x0_1 > 0
   ·
    rw [if_pos c2] at H
    have c2b0 : decide (0 < x0_1) = true := decide_eq_true c2
    clear c2
    replace H := Option.bind_eq_some_iff.mp H
    obtain ⟨t178, A30, H⟩ := H
    try dsimp only at H
    have A3 := Aside0.mk A30
    clear A30
    by_cases c4 : x3_1.length < 17592186044416
    ·
     rw [if_pos c4] at H
     have LMc4 := Aside0.mk c4
     clear c4
     obtain ⟨y179, hy179⟩ : ∃ y_ : List Int, y_ = (x3_1 ++ [t178]) := ⟨_, rfl⟩
     replace H : (feed_list.l0 k1 (Go.bits .and .i64 x0_1 (wrap64 (x0_1 - 1))) y179) = some r := by first | (rw [hy179]; with_reducible exact H) | (have H2_ := (Option.bind_some _ _).symm.trans H; rw [hy179]; with_reducible exact H2_) | (have H2_ := (Option.bind_some _ _).symm.trans H; with_reducible exact H2_) | with_reducible exact H | (rw [hy179]; exact H) | exact H
     have Ny179 := Aside0.mk hy179
     clear hy179
     have H' := Aside0.mk H
     clear H
     go_wp2_with (first | ((with_reducible refine gate_callee (f := 60) rfl ?_); refine goesL_ (some 13) rfl rfl Tryd.func60 (by kernel_rfl) rfl #[.int .u64 (IntKind.u64.wrap (x0_1))] rfl mapz ?_; (with_reducible refine (bits_TrailingZeros.calls (IntKind.u64.wrap (x0_1)) t178 _ (tbz HT) A3.out).mono ?_); rintro e w' ⟨rfl, ⟨nd, rfl⟩⟩; refine ⟨_, rfl, ?_⟩) | ((with_reducible refine gate_builtin (b := .append) (xs := #[.tmp 10, .tmp 14]) rfl ?_); at_builtin; refine Kd.R_append (Kd.int .i64) (w0 := w) w.heap.size rfl (.tmp 10) (.tmp 14) 26 3 (.int .i64 0) 8 rfl Tryd.underlying26 info3 rfl (by decide) (by omega) u3 x3_1 t178 [.int .i64 t178] (fun _ => True) (fun _ => False) rfl rfl ?aP (fun _ hk => hk.elim) ?aF ?aO ?aB ?aS ?aL ?_; (case aP => exact rfl); (case aB => exact bel); (case aF => exact (fun _ _ => trivial)); (case aO => exact (ownx HO_3)); (case aS => exact (below_size bel)); (case aL => have := LMc4.out; omega); intro v180 w5 ho hb hg hat; rw [← Ny179.out] at ho; have n0_ := Aside0.mk (hb); have n1_ := Aside0.mk (ho); clear HB; clear HO_3; have HB := n0_; have HO181 := n1_; clear n0_ n1_; clear ho hb hg hat))
     go_roundg k1
     case measure => have := HK1.out; omega
     case rel => exact ⟨(Go.bits .and .i64 x0_1 (wrap64 (x0_1 - 1))), (y179), rsz, H', ⟨by have := HK1.out; omega⟩, ⟨by (with_reducible repeat (first | apply Kd.R_alloc | apply Kd.R_drewN | apply Kd.R_drew)); exact HO181.out⟩, ⟨bel⟩⟩
    ·
     rw [if_neg c4] at H
     exact absurd H (by simp)
   ·
    rw [if_neg c2] at H
    have c2b0 : decide (0 < x0_1) = false := decide_eq_false c2
    clear c2
    obtain rfl := Option.some.inj H
    go_wp2
    go_ret
    exact ⟨_, ezz, by (with_reducible repeat (first | apply Kd.R_alloc | apply Kd.R_drewN | apply Kd.R_drew)); exact HO_3.out, bel⟩

/-! ### bits_OnesCount64: function 82 -/
def bits_OnesCount64.f (a0 : Int) : Option (Int) := some (Go.bits .and .i64 (wrap64 (IntKind.u64.wrap ((IntKind.u64.wrap ((IntKind.u64.wrap ((Go.bits .and .u64 (IntKind.u64.wrap (((IntKind.u64.wrap ((Go.bits .and .u64 ((IntKind.u64.wrap ((Go.bits .and .u64 (a0 / 2) 6148914691236517205) + (Go.bits .and .u64 a0 6148914691236517205))) / 4) 3689348814741910323) + (Go.bits .and .u64 (IntKind.u64.wrap ((Go.bits .and .u64 (a0 / 2) 6148914691236517205) + (Go.bits .and .u64 a0 6148914691236517205))) 3689348814741910323))) / 16) + (IntKind.u64.wrap ((Go.bits .and .u64 ((IntKind.u64.wrap ((Go.bits .and .u64 (a0 / 2) 6148914691236517205) + (Go.bits .and .u64 a0 6148914691236517205))) / 4) 3689348814741910323) + (Go.bits .and .u64 (IntKind.u64.wrap ((Go.bits .and .u64 (a0 / 2) 6148914691236517205) + (Go.bits .and .u64 a0 6148914691236517205))) 3689348814741910323))))) 1085102592571150095) + ((Go.bits .and .u64 (IntKind.u64.wrap (((IntKind.u64.wrap ((Go.bits .and .u64 ((IntKind.u64.wrap ((Go.bits .and .u64 (a0 / 2) 6148914691236517205) + (Go.bits .and .u64 a0 6148914691236517205))) / 4) 3689348814741910323) + (Go.bits .and .u64 (IntKind.u64.wrap ((Go.bits .and .u64 (a0 / 2) 6148914691236517205) + (Go.bits .and .u64 a0 6148914691236517205))) 3689348814741910323))) / 16) + (IntKind.u64.wrap ((Go.bits .and .u64 ((IntKind.u64.wrap ((Go.bits .and .u64 (a0 / 2) 6148914691236517205) + (Go.bits .and .u64 a0 6148914691236517205))) / 4) 3689348814741910323) + (Go.bits .and .u64 (IntKind.u64.wrap ((Go.bits .and .u64 (a0 / 2) 6148914691236517205) + (Go.bits .and .u64 a0 6148914691236517205))) 3689348814741910323))))) 1085102592571150095) / 256))) + ((IntKind.u64.wrap ((Go.bits .and .u64 (IntKind.u64.wrap (((IntKind.u64.wrap ((Go.bits .and .u64 ((IntKind.u64.wrap ((Go.bits .and .u64 (a0 / 2) 6148914691236517205) + (Go.bits .and .u64 a0 6148914691236517205))) / 4) 3689348814741910323) + (Go.bits .and .u64 (IntKind.u64.wrap ((Go.bits .and .u64 (a0 / 2) 6148914691236517205) + (Go.bits .and .u64 a0 6148914691236517205))) 3689348814741910323))) / 16) + (IntKind.u64.wrap ((Go.bits .and .u64 ((IntKind.u64.wrap ((Go.bits .and .u64 (a0 / 2) 6148914691236517205) + (Go.bits .and .u64 a0 6148914691236517205))) / 4) 3689348814741910323) + (Go.bits .and .u64 (IntKind.u64.wrap ((Go.bits .and .u64 (a0 / 2) 6148914691236517205) + (Go.bits .and .u64 a0 6148914691236517205))) 3689348814741910323))))) 1085102592571150095) + ((Go.bits .and .u64 (IntKind.u64.wrap (((IntKind.u64.wrap ((Go.bits .and .u64 ((IntKind.u64.wrap ((Go.bits .and .u64 (a0 / 2) 6148914691236517205) + (Go.bits .and .u64 a0 6148914691236517205))) / 4) 3689348814741910323) + (Go.bits .and .u64 (IntKind.u64.wrap ((Go.bits .and .u64 (a0 / 2) 6148914691236517205) + (Go.bits .and .u64 a0 6148914691236517205))) 3689348814741910323))) / 16) + (IntKind.u64.wrap ((Go.bits .and .u64 ((IntKind.u64.wrap ((Go.bits .and .u64 (a0 / 2) 6148914691236517205) + (Go.bits .and .u64 a0 6148914691236517205))) / 4) 3689348814741910323) + (Go.bits .and .u64 (IntKind.u64.wrap ((Go.bits .and .u64 (a0 / 2) 6148914691236517205) + (Go.bits .and .u64 a0 6148914691236517205))) 3689348814741910323))))) 1085102592571150095) / 256))) / 65536))) + ((IntKind.u64.wrap ((IntKind.u64.wrap ((Go.bits .and .u64 (IntKind.u64.wrap (((IntKind.u64.wrap ((Go.bits .and .u64 ((IntKind.u64.wrap ((Go.bits .and .u64 (a0 / 2) 6148914691236517205) + (Go.bits .and .u64 a0 6148914691236517205))) / 4) 3689348814741910323) + (Go.bits .and .u64 (IntKind.u64.wrap ((Go.bits .and .u64 (a0 / 2) 6148914691236517205) + (Go.bits .and .u64 a0 6148914691236517205))) 3689348814741910323))) / 16) + (IntKind.u64.wrap ((Go.bits .and .u64 ((IntKind.u64.wrap ((Go.bits .and .u64 (a0 / 2) 6148914691236517205) + (Go.bits .and .u64 a0 6148914691236517205))) / 4) 3689348814741910323) + (Go.bits .and .u64 (IntKind.u64.wrap ((Go.bits .and .u64 (a0 / 2) 6148914691236517205) + (Go.bits .and .u64 a0 6148914691236517205))) 3689348814741910323))))) 1085102592571150095) + ((Go.bits .and .u64 (IntKind.u64.wrap (((IntKind.u64.wrap ((Go.bits .and .u64 ((IntKind.u64.wrap ((Go.bits .and .u64 (a0 / 2) 6148914691236517205) + (Go.bits .and .u64 a0 6148914691236517205))) / 4) 3689348814741910323) + (Go.bits .and .u64 (IntKind.u64.wrap ((Go.bits .and .u64 (a0 / 2) 6148914691236517205) + (Go.bits .and .u64 a0 6148914691236517205))) 3689348814741910323))) / 16) + (IntKind.u64.wrap ((Go.bits .and .u64 ((IntKind.u64.wrap ((Go.bits .and .u64 (a0 / 2) 6148914691236517205) + (Go.bits .and .u64 a0 6148914691236517205))) / 4) 3689348814741910323) + (Go.bits .and .u64 (IntKind.u64.wrap ((Go.bits .and .u64 (a0 / 2) 6148914691236517205) + (Go.bits .and .u64 a0 6148914691236517205))) 3689348814741910323))))) 1085102592571150095) / 256))) + ((IntKind.u64.wrap ((Go.bits .and .u64 (IntKind.u64.wrap (((IntKind.u64.wrap ((Go.bits .and .u64 ((IntKind.u64.wrap ((Go.bits .and .u64 (a0 / 2) 6148914691236517205) + (Go.bits .and .u64 a0 6148914691236517205))) / 4) 3689348814741910323) + (Go.bits .and .u64 (IntKind.u64.wrap ((Go.bits .and .u64 (a0 / 2) 6148914691236517205) + (Go.bits .and .u64 a0 6148914691236517205))) 3689348814741910323))) / 16) + (IntKind.u64.wrap ((Go.bits .and .u64 ((IntKind.u64.wrap ((Go.bits .and .u64 (a0 / 2) 6148914691236517205) + (Go.bits .and .u64 a0 6148914691236517205))) / 4) 3689348814741910323) + (Go.bits .and .u64 (IntKind.u64.wrap ((Go.bits .and .u64 (a0 / 2) 6148914691236517205) + (Go.bits .and .u64 a0 6148914691236517205))) 3689348814741910323))))) 1085102592571150095) + ((Go.bits .and .u64 (IntKind.u64.wrap (((IntKind.u64.wrap ((Go.bits .and .u64 ((IntKind.u64.wrap ((Go.bits .and .u64 (a0 / 2) 6148914691236517205) + (Go.bits .and .u64 a0 6148914691236517205))) / 4) 3689348814741910323) + (Go.bits .and .u64 (IntKind.u64.wrap ((Go.bits .and .u64 (a0 / 2) 6148914691236517205) + (Go.bits .and .u64 a0 6148914691236517205))) 3689348814741910323))) / 16) + (IntKind.u64.wrap ((Go.bits .and .u64 ((IntKind.u64.wrap ((Go.bits .and .u64 (a0 / 2) 6148914691236517205) + (Go.bits .and .u64 a0 6148914691236517205))) / 4) 3689348814741910323) + (Go.bits .and .u64 (IntKind.u64.wrap ((Go.bits .and .u64 (a0 / 2) 6148914691236517205) + (Go.bits .and .u64 a0 6148914691236517205))) 3689348814741910323))))) 1085102592571150095) / 256))) / 65536))) / 4294967296)))) 127)
set_option maxHeartbeats 8000000 in
set_option maxRecDepth 100000 in
theorem bits_OnesCount64.calls (a0 : Int) (r : Int) (w : World) (h : bits_OnesCount64.f a0 = some r) :
  Calls Tryd.prog 82 #[.int .u64 a0] w fun e w' => e = .returned (.int .i64 r) ∧ Drawn0 w w' := by
 have H : (some (Go.bits .and .i64 (wrap64 (IntKind.u64.wrap ((IntKind.u64.wrap ((IntKind.u64.wrap ((Go.bits .and .u64 (IntKind.u64.wrap (((IntKind.u64.wrap ((Go.bits .and .u64 ((IntKind.u64.wrap ((Go.bits .and .u64 (a0 / 2) 6148914691236517205) + (Go.bits .and .u64 a0 6148914691236517205))) / 4) 3689348814741910323) + (Go.bits .and .u64 (IntKind.u64.wrap ((Go.bits .and .u64 (a0 / 2) 6148914691236517205) + (Go.bits .and .u64 a0 6148914691236517205))) 3689348814741910323))) / 16) + (IntKind.u64.wrap ((Go.bits .and .u64 ((IntKind.u64.wrap ((Go.bits .and .u64 (a0 / 2) 6148914691236517205) + (Go.bits .and .u64 a0 6148914691236517205))) / 4) 3689348814741910323) + (Go.bits .and .u64 (IntKind.u64.wrap ((Go.bits .and .u64 (a0 / 2) 6148914691236517205) + (Go.bits .and .u64 a0 6148914691236517205))) 3689348814741910323))))) 1085102592571150095) + ((Go.bits .and .u64 (IntKind.u64.wrap (((IntKind.u64.wrap ((Go.bits .and .u64 ((IntKind.u64.wrap ((Go.bits .and .u64 (a0 / 2) 6148914691236517205) + (Go.bits .and .u64 a0 6148914691236517205))) / 4) 3689348814741910323) + (Go.bits .and .u64 (IntKind.u64.wrap ((Go.bits .and .u64 (a0 / 2) 6148914691236517205) + (Go.bits .and .u64 a0 6148914691236517205))) 3689348814741910323))) / 16) + (IntKind.u64.wrap ((Go.bits .and .u64 ((IntKind.u64.wrap ((Go.bits .and .u64 (a0 / 2) 6148914691236517205) + (Go.bits .and .u64 a0 6148914691236517205))) / 4) 3689348814741910323) + (Go.bits .and .u64 (IntKind.u64.wrap ((Go.bits .and .u64 (a0 / 2) 6148914691236517205) + (Go.bits .and .u64 a0 6148914691236517205))) 3689348814741910323))))) 1085102592571150095) / 256))) + ((IntKind.u64.wrap ((Go.bits .and .u64 (IntKind.u64.wrap (((IntKind.u64.wrap ((Go.bits .and .u64 ((IntKind.u64.wrap ((Go.bits .and .u64 (a0 / 2) 6148914691236517205) + (Go.bits .and .u64 a0 6148914691236517205))) / 4) 3689348814741910323) + (Go.bits .and .u64 (IntKind.u64.wrap ((Go.bits .and .u64 (a0 / 2) 6148914691236517205) + (Go.bits .and .u64 a0 6148914691236517205))) 3689348814741910323))) / 16) + (IntKind.u64.wrap ((Go.bits .and .u64 ((IntKind.u64.wrap ((Go.bits .and .u64 (a0 / 2) 6148914691236517205) + (Go.bits .and .u64 a0 6148914691236517205))) / 4) 3689348814741910323) + (Go.bits .and .u64 (IntKind.u64.wrap ((Go.bits .and .u64 (a0 / 2) 6148914691236517205) + (Go.bits .and .u64 a0 6148914691236517205))) 3689348814741910323))))) 1085102592571150095) + ((Go.bits .and .u64 (IntKind.u64.wrap (((IntKind.u64.wrap ((Go.bits .and .u64 ((IntKind.u64.wrap ((Go.bits .and .u64 (a0 / 2) 6148914691236517205) + (Go.bits .and .u64 a0 6148914691236517205))) / 4) 3689348814741910323) + (Go.bits .and .u64 (IntKind.u64.wrap ((Go.bits .and .u64 (a0 / 2) 6148914691236517205) + (Go.bits .and .u64 a0 6148914691236517205))) 3689348814741910323))) / 16) + (IntKind.u64.wrap ((Go.bits .and .u64 ((IntKind.u64.wrap ((Go.bits .and .u64 (a0 / 2) 6148914691236517205) + (Go.bits .and .u64 a0 6148914691236517205))) / 4) 3689348814741910323) + (Go.bits .and .u64 (IntKind.u64.wrap ((Go.bits .and .u64 (a0 / 2) 6148914691236517205) + (Go.bits .and .u64 a0 6148914691236517205))) 3689348814741910323))))) 1085102592571150095) / 256))) / 65536))) + ((IntKind.u64.wrap ((IntKind.u64.wrap ((Go.bits .and .u64 (IntKind.u64.wrap (((IntKind.u64.wrap ((Go.bits .and .u64 ((IntKind.u64.wrap ((Go.bits .and .u64 (a0 / 2) 6148914691236517205) + (Go.bits .and .u64 a0 6148914691236517205))) / 4) 3689348814741910323) + (Go.bits .and .u64 (IntKind.u64.wrap ((Go.bits .and .u64 (a0 / 2) 6148914691236517205) + (Go.bits .and .u64 a0 6148914691236517205))) 3689348814741910323))) / 16) + (IntKind.u64.wrap ((Go.bits .and .u64 ((IntKind.u64.wrap ((Go.bits .and .u64 (a0 / 2) 6148914691236517205) + (Go.bits .and .u64 a0 6148914691236517205))) / 4) 3689348814741910323) + (Go.bits .and .u64 (IntKind.u64.wrap ((Go.bits .and .u64 (a0 / 2) 6148914691236517205) + (Go.bits .and .u64 a0 6148914691236517205))) 3689348814741910323))))) 1085102592571150095) + ((Go.bits .and .u64 (IntKind.u64.wrap (((IntKind.u64.wrap ((Go.bits .and .u64 ((IntKind.u64.wrap ((Go.bits .and .u64 (a0 / 2) 6148914691236517205) + (Go.bits .and .u64 a0 6148914691236517205))) / 4) 3689348814741910323) + (Go.bits .and .u64 (IntKind.u64.wrap ((Go.bits .and .u64 (a0 / 2) 6148914691236517205) + (Go.bits .and .u64 a0 6148914691236517205))) 3689348814741910323))) / 16) + (IntKind.u64.wrap ((Go.bits .and .u64 ((IntKind.u64.wrap ((Go.bits .and .u64 (a0 / 2) 6148914691236517205) + (Go.bits .and .u64 a0 6148914691236517205))) / 4) 3689348814741910323) + (Go.bits .and .u64 (IntKind.u64.wrap ((Go.bits .and .u64 (a0 / 2) 6148914691236517205) + (Go.bits .and .u64 a0 6148914691236517205))) 3689348814741910323))))) 1085102592571150095) / 256))) + ((IntKind.u64.wrap ((Go.bits .and .u64 (IntKind.u64.wrap (((IntKind.u64.wrap ((Go.bits .and .u64 ((IntKind.u64.wrap ((Go.bits .and .u64 (a0 / 2) 6148914691236517205) + (Go.bits .and .u64 a0 6148914691236517205))) / 4) 3689348814741910323) + (Go.bits .and .u64 (IntKind.u64.wrap ((Go.bits .and .u64 (a0 / 2) 6148914691236517205) + (Go.bits .and .u64 a0 6148914691236517205))) 3689348814741910323))) / 16) + (IntKind.u64.wrap ((Go.bits .and .u64 ((IntKind.u64.wrap ((Go.bits .and .u64 (a0 / 2) 6148914691236517205) + (Go.bits .and .u64 a0 6148914691236517205))) / 4) 3689348814741910323) + (Go.bits .and .u64 (IntKind.u64.wrap ((Go.bits .and .u64 (a0 / 2) 6148914691236517205) + (Go.bits .and .u64 a0 6148914691236517205))) 3689348814741910323))))) 1085102592571150095) + ((Go.bits .and .u64 (IntKind.u64.wrap (((IntKind.u64.wrap ((Go.bits .and .u64 ((IntKind.u64.wrap ((Go.bits .and .u64 (a0 / 2) 6148914691236517205) + (Go.bits .and .u64 a0 6148914691236517205))) / 4) 3689348814741910323) + (Go.bits .and .u64 (IntKind.u64.wrap ((Go.bits .and .u64 (a0 / 2) 6148914691236517205) + (Go.bits .and .u64 a0 6148914691236517205))) 3689348814741910323))) / 16) + (IntKind.u64.wrap ((Go.bits .and .u64 ((IntKind.u64.wrap ((Go.bits .and .u64 (a0 / 2) 6148914691236517205) + (Go.bits .and .u64 a0 6148914691236517205))) / 4) 3689348814741910323) + (Go.bits .and .u64 (IntKind.u64.wrap ((Go.bits .and .u64 (a0 / 2) 6148914691236517205) + (Go.bits .and .u64 a0 6148914691236517205))) 3689348814741910323))))) 1085102592571150095) / 256))) / 65536))) / 4294967296)))) 127)) = some r := h
 clear h
 obtain rfl := Option.some.inj H
 go_enter Tryd.func82, Tryd.ntmps82
 go_wp2
 go_ret
 exact ⟨by first | rfl | (simp; done) | (simp [*]; done), drz⟩

/-! ### bits_OnesCount: function 61 -/
def bits_OnesCount.f (a0 : Int) : Option (Int) := (bits_OnesCount64.f a0).bind fun t182 => (some t182)
set_option maxHeartbeats 8000000 in
set_option maxRecDepth 100000 in
theorem bits_OnesCount.calls (a0 : Int) (r : Int) (w : World) (h : bits_OnesCount.f a0 = some r) :
  Calls Tryd.prog 61 #[.int .u64 a0] w fun e w' => e = .returned (.int .i64 r) ∧ Drawn0 w w' := by
 have H : ((bits_OnesCount64.f a0).bind fun t182 => (some t182)) = some r := h
 clear h
 replace H := Option.bind_eq_some_iff.mp H
 obtain ⟨t182, A20, H⟩ := H
 try dsimp only at H
 have A2 := Aside0.mk A20
 clear A20
 obtain rfl := Option.some.inj H
 go_enter Tryd.func61, Tryd.ntmps61
 go_wp2_with (first | ((with_reducible refine gate_callee (f := 82) rfl ?_); refine goesL_ (some 7) rfl rfl Tryd.func82 (by kernel_rfl) rfl #[.int .u64 a0] rfl mapz ?_; (with_reducible refine (bits_OnesCount64.calls a0 t182 _ A2.out).mono ?_); rintro e w' ⟨rfl, ⟨nd, rfl⟩⟩; refine ⟨_, rfl, ?_⟩))
 go_ret
 exact ⟨by first | rfl | (simp; done) | (simp [*]; done), drz⟩

/-! ### feed_grid_group: function 78 -/
mutual
def feed_grid_group.l0 : Nat → Int → Int → Bool → Int → List (S47) → List (S49) → Option (Int)
 | 0, _, _, _, _, _, _ => none
 | k + 1, x1, x7, x8, x184000, x184001, x184002 => if x8 = true then (feed_grid_group.l1 k x1 x7 false x184001 (x184001.length : Int) 0 x184000 x184001 x184002) else (some x7)
def feed_grid_group.l1 : Nat → Int → Int → Bool → List (S47) → Int → Int → Int → List (S47) → List (S49) → Option (Int)
 | 0, _, _, _, _, _, _, _, _, _ => none
 | k + 1, x1, x7, x8, x17, x18, x19, x184000, x184001, x184002 => if x19 < x18 then (if 0 ≤ x19 then (if x19 < (x17.length : Int) then (if (Go.bits .and .i64 (shr .i64 x1 x19) 1) = 0 then (feed_grid_group.l1 k x1 x7 x8 x17 x18 (wrap64 (x19 + 1)) x184000 x184001 x184002) else (if 0 ≤ ((rd_T47 x17 x19).f0) then (if 0 ≤ ((rd_T47 x17 x19).f1) then (if (Go.bits .and .u64 x7 (Go.bits .or .u64 (shl .u64 1 ((rd_T47 x17 x19).f0)) (shl .u64 1 ((rd_T47 x17 x19).f1)))) = 0 then (feed_grid_group.l1 k x1 x7 x8 x17 x18 (wrap64 (x19 + 1)) x184000 x184001 x184002) else (if (Go.bits .and .u64 x7 (Go.bits .or .u64 (shl .u64 1 ((rd_T47 x17 x19).f0)) (shl .u64 1 ((rd_T47 x17 x19).f1)))) = (Go.bits .or .u64 (shl .u64 1 ((rd_T47 x17 x19).f0)) (shl .u64 1 ((rd_T47 x17 x19).f1))) then (feed_grid_group.l1 k x1 x7 x8 x17 x18 (wrap64 (x19 + 1)) x184000 x184001 x184002) else (feed_grid_group.l1 k x1 (Go.bits .or .u64 x7 (Go.bits .or .u64 (shl .u64 1 ((rd_T47 x17 x19).f0)) (shl .u64 1 ((rd_T47 x17 x19).f1)))) true x17 x18 (wrap64 (x19 + 1)) x184000 x184001 x184002))) else (none)) else (none))) else (none)) else (none)) else (feed_grid_group.l0 k x1 x7 x8 x184000 x184001 x184002)
end
def feed_grid_group.f (k : Nat) (a0_0 : Int) (l0_1 : List (S47)) (l0_2 : List (S49)) (a1 : Int) (a2 : Int) : Option (Int) := if 0 ≤ a2 then (feed_grid_group.l0 k a1 (shl .u64 1 a2) true a0_0 l0_1 l0_2) else (none)
theorem feed_grid_group.mono_l : ∀ k, (∀ y0 y1 y2 y3 y4 y5, LeO (feed_grid_group.l0 k y0 y1 y2 y3 y4 y5) (feed_grid_group.l0 (k + 1) y0 y1 y2 y3 y4 y5)) ∧ (∀ y0 y1 y2 y3 y4 y5 y6 y7 y8, LeO (feed_grid_group.l1 k y0 y1 y2 y3 y4 y5 y6 y7 y8) (feed_grid_group.l1 (k + 1) y0 y1 y2 y3 y4 y5 y6 y7 y8))
 | 0 => ⟨fun _ _ _ _ _ _ r h => by simp [feed_grid_group.l0] at h, fun _ _ _ _ _ _ _ _ _ r h => by simp [feed_grid_group.l1] at h⟩
 | k + 1 => by
  obtain ⟨ih0, ih1⟩ := feed_grid_group.mono_l k
  refine ⟨?_, ?_⟩
  ·
   intro y0 y1 y2 y3 y4 y5
   unfold feed_grid_group.l0
   repeat' first
   | (with_reducible exact ih0 _ _ _ _ _ _)
   | (with_reducible exact ih1 _ _ _ _ _ _ _ _ _)
   | (with_reducible exact LeO.refl _)
   | (with_reducible exact LeO.none _)
   | (with_reducible refine LeO.ite ?_ ?_)
   | (with_reducible refine LeO.bind ?_ (fun _ => ?_))
   | exact ih0 _ _ _ _ _ _
   | exact ih1 _ _ _ _ _ _ _ _ _
   | exact LeO.none _
   | refine LeO.ite ?_ ?_
   | refine LeO.bind ?_ (fun _ => ?_)
  ·
   intro y0 y1 y2 y3 y4 y5 y6 y7 y8
   unfold feed_grid_group.l1
   repeat' first
   | (with_reducible exact ih0 _ _ _ _ _ _)
   | (with_reducible exact ih1 _ _ _ _ _ _ _ _ _)
   | (with_reducible exact LeO.refl _)
   | (with_reducible exact LeO.none _)
   | (with_reducible refine LeO.ite ?_ ?_)
   | (with_reducible refine LeO.bind ?_ (fun _ => ?_))
   | exact ih0 _ _ _ _ _ _
   | exact ih1 _ _ _ _ _ _ _ _ _
   | exact LeO.none _
   | refine LeO.ite ?_ ?_
   | refine LeO.bind ?_ (fun _ => ?_)
theorem feed_grid_group.mono : ∀ a0 a1 a2 a3 a4 k, LeO (feed_grid_group.f k a0 a1 a2 a3 a4) (feed_grid_group.f (k + 1) a0 a1 a2 a3 a4) := by
 intro a0 a1 a2 a3 a4 k
 obtain ⟨ih0, ih1⟩ := feed_grid_group.mono_l k
 unfold feed_grid_group.f
 repeat' first
   | (with_reducible exact ih0 _ _ _ _ _ _)
   | (with_reducible exact ih1 _ _ _ _ _ _ _ _ _)
   | (with_reducible exact LeO.refl _)
   | (with_reducible exact LeO.none _)
   | (with_reducible refine LeO.ite ?_ ?_)
   | (with_reducible refine LeO.bind ?_ (fun _ => ?_))
   | exact ih0 _ _ _ _ _ _
   | exact ih1 _ _ _ _ _ _ _ _ _
   | exact LeO.none _
   | refine LeO.ite ?_ ?_
   | refine LeO.bind ?_ (fun _ => ?_)
set_option maxHeartbeats 8000000 in
set_option maxRecDepth 100000 in
theorem feed_grid_group.calls (k : Nat) (a0_0 : Int) (A0_1 : Option Addr) (c0_1 : Nat) (l0_1 : List (S47)) (A0_2 : Option Addr) (c0_2 : Nat) (l0_2 : List (S49)) (a1 : Int) (a2 : Int) (r : Int) (w : World) (hr0_1 : Kd.C k47 w A0_1 l0_1.length l0_1) (hc0_1 : l0_1.length ≤ c0_1) (hr0_2 : Kd.C k49 w A0_2 l0_2.length l0_2) (hc0_2 : l0_2.length ≤ c0_2) (h : feed_grid_group.f k a0_0 l0_1 l0_2 a1 a2 = some r) :
  Calls Tryd.prog 78 #[.agg #[.int .i64 a0_0, .slice A0_1 l0_1.length c0_1, .slice A0_2 l0_2.length c0_2], .int .i64 a1, .int .i64 a2] w fun e w' => e = .returned (.int .u64 r) ∧ Below w.heap.size w w' := by
 have hu54 := Tryd.underlying54
 have hu47 := Tryd.underlying47
 have HR0_1 := Aside0.mk hr0_1
 have HC0_1 := Aside0.mk hc0_1
 clear hr0_1 hc0_1
 have HR0_2 := Aside0.mk hr0_2
 have HC0_2 := Aside0.mk hc0_2
 clear hr0_2 hc0_2
 have HB := Aside0.mk (Below.refl w.heap.size w)
 have H : (if 0 ≤ a2 then (feed_grid_group.l0 k a1 (shl .u64 1 a2) true a0_0 l0_1 l0_2) else (none)) = some r := h
 clear h
 by_cases c4 : 0 ≤ a2
 ·
  rw [if_pos c4] at H
  have c4b0 := eq_true c4
  have c4b1 : decide (0 ≤ a2) = true := decide_eq_true c4
  clear c4
  obtain ⟨ji5, hji5⟩ : ∃ j_ : Int, (shl .u64 1 a2) = j_ := ⟨_, rfl⟩
  replace H : (feed_grid_group.l0 k a1 ji5 true a0_0 l0_1 l0_2) = some r := by first | (rw [hji5] at H; exact H) | (simp only [hji5] at H ⊢; exact H)
  have hji5_ : (IntKind.u64.wrap (1 * 2 ^ min a2.toNat 64)) = ji5 := hji5
  have hji5z : a2 ≤ 64 → (IntKind.u64.wrap (1 * 2 ^ a2.toNat)) = ji5 := shl_small hji5
  have hji5u : (IntKind.u64.wrap (2 ^ min a2.toNat 64)) = ji5 := by have h_ := hji5_; rw [Int.one_mul] at h_; exact h_
  have hji5v : a2 ≤ 64 → (IntKind.u64.wrap (2 ^ a2.toNat)) = ji5 := fun hle_ => by have h_ := hji5z hle_; rw [Int.one_mul] at h_; exact h_
  have H' := Aside0.mk H
  clear H
  go_enter Tryd.func78, Tryd.ntmps78
  go_wp2_with (first | ((with_reducible refine gate_dst (N := 3) rfl ?_); refine box_event ?hg (N := 3) ?hd (cs := #[.int .i64 a0_0, .slice A0_1 l0_1.length c0_1, .slice A0_2 l0_2.length c0_2]) (t := 54) ?hr ?_; (case hd => rfl); (case hg => rfl); (case hr => first | (go_simp; done) | (go_simp; rfl)); intro gb183 hg w6 hbox hb; have BK183 := Aside0.mk (hbox); have GW183 := bsz (w := w) hg; have GE183 := GW183; replace HB := Aside0.mk (below_step bel hb); clear hb hbox hg))
  repeat (go_quiet (first | ((with_reducible refine gate_dst (N := 3) rfl ?_); refine box_event ?hg (N := 3) ?hd (cs := #[.int .i64 a0_0, .slice A0_1 l0_1.length c0_1, .slice A0_2 l0_2.length c0_2]) (t := 54) ?hr ?_; (case hd => rfl); (case hg => rfl); (case hr => first | (go_simp; done) | (go_simp; rfl)); intro gb183 hg w6 hbox hb; have BK183 := Aside0.mk (hbox); have GW183 := bsz (w := w) hg; have GE183 := GW183; replace HB := Aside0.mk (below_step bel hb); clear hb hbox hg)); try go_wp2_with (first | ((with_reducible refine gate_dst (N := 3) rfl ?_); refine box_event ?hg (N := 3) ?hd (cs := #[.int .i64 a0_0, .slice A0_1 l0_1.length c0_1, .slice A0_2 l0_2.length c0_2]) (t := 54) ?hr ?_; (case hd => rfl); (case hg => rfl); (case hr => first | (go_simp; done) | (go_simp; rfl)); intro gb183 hg w6 hbox hb; have BK183 := Aside0.mk (hbox); have GW183 := bsz (w := w) hg; have GE183 := GW183; replace HB := Aside0.mk (below_step bel hb); clear hb hbox hg)))
  go_loopg [7, 8] k (fun kq v7 v8 w' => ∃ (x7_1 : Int) (x8_1 : Bool), v7 = .int .u64 x7_1 ∧ v8 = .bool x8_1 ∧ Aside0 (feed_grid_group.l0 kq a1 x7_1 x8_1 a0_0 l0_1 l0_2 = some r) ∧ Aside0 (kq ≤ k) ∧ Aside0 (w'.heap[gb183]? = some (.cells #[.int .i64 a0_0, (.slice A0_1 l0_1.length c0_1), (.slice A0_2 l0_2.length c0_2)] 54 (0, 0))) ∧ Aside0 (Below w.heap.size w w'))
  case atStart => exact ⟨(ji5), (true), (by first | rfl | (simp; done) | (simp only [← hji5] <;> (first | rfl | simp)) | (simp [*]; done)), rsz, H', ⟨Nat.le_refl _⟩, ⟨blkz⟩, ⟨bel⟩⟩
  case round =>
   clear H'
   (try clear p2); (try clear c4); (try clear c4b0); (try clear c4b1)
   obtain ⟨x7_1, x8_1, rfl, rfl, HA, HK1, BK183, HB⟩ := hrel
   cases gk with
   | zero => exact absurd HA.out (by simp [feed_grid_group.l0])
   | succ k1 =>
    have H := HA.out
    clear HA
    simp only [feed_grid_group.l0] at H
    by_cases c7 : x8_1 = true
    ·
     subst c7
     rw [if_pos rfl] at H
     have H' := Aside0.mk H
     clear H
     obtain ⟨hcz8_0, hcz8_1, hcz8_2⟩ := bc3 BK183.out
     obtain ⟨hfz8_0, hfz8_1, hfz8_2⟩ := bf3 BK183.out
     go_wp2
     repeat (go_quiet (fail); try go_wp2)
     go_loopg [7, 8, 19] k1 (fun kq v7 v8 v19 w' => ∃ (x7_2 : Int) (x8_2 : Bool) (x19_2 : Int), v7 = .int .u64 x7_2 ∧ v8 = .bool x8_2 ∧ v19 = .int .i64 x19_2 ∧ Aside0 (feed_grid_group.l1 kq a1 x7_2 x8_2 l0_1 (l0_1.length : Int) x19_2 a0_0 l0_1 l0_2 = some r) ∧ Aside0 (kq ≤ k1) ∧ Aside0 (w'.heap[gb183]? = some (.cells #[.int .i64 a0_0, (.slice A0_1 l0_1.length c0_1), (.slice A0_2 l0_2.length c0_2)] 54 (0, 0))) ∧ Aside0 (Below w.heap.size w w'))
     case atStart => exact ⟨(x7_1), (false), (0), rsz, rsz, rsz, H', ⟨Nat.le_refl _⟩, ⟨blkz⟩, ⟨bel⟩⟩
     case round =>
      clear H'
      (try clear p2); (try clear c4); (try clear c4b0); (try clear c4b1); (try clear c7); (try clear hcz8_0); (try clear hcz8_1); (try clear hcz8_2); (try clear hfz8_0); (try clear hfz8_1); (try clear hfz8_2); (try clear p2)
      obtain ⟨x7_2, x8_2, x19_2, rfl, rfl, rfl, HA, HK2, BK183, HB⟩ := hrel
      cases gk with
      | zero => exact absurd HA.out (by simp [feed_grid_group.l1])
      | succ k2 =>
       have H := HA.out
       clear HA
       simp only [feed_grid_group.l1] at H
       by_cases c9 : x19_2 < (l0_1.length : Int)
       ·
        rw [if_pos c9] at H
        have c9b0 : decide (x19_2 < (l0_1.length : Int)) = true := decide_eq_true c9
        clear c9
        by_cases c10 : 0 ≤ x19_2
        ·
         rw [if_pos c10] at H
         have c10b0 : decide (0 ≤ x19_2) = true := decide_eq_true c10
         clear c10
         by_cases c11 : x19_2 < (l0_1.length : Int)
         ·
          rw [if_pos c11] at H
          have c11b0 : decide (x19_2 < (l0_1.length : Int)) = true := decide_eq_true c11
          clear c11
          have c12b0 := eq_true (of_decide_eq_true asz : 0 ≤ x19_2)
          obtain ⟨ji13, hji13⟩ : ∃ j_ : Int, (shr .i64 a1 x19_2) = j_ := ⟨_, rfl⟩
          replace H : (if (Go.bits .and .i64 (ji13) 1) = 0 then (feed_grid_group.l1 k2 a1 x7_2 x8_2 l0_1 (l0_1.length : Int) (wrap64 (x19_2 + 1)) a0_0 l0_1 l0_2) else (if 0 ≤ ((rd_T47 l0_1 x19_2).f0) then (if 0 ≤ ((rd_T47 l0_1 x19_2).f1) then (if (Go.bits .and .u64 x7_2 (Go.bits .or .u64 (shl .u64 1 ((rd_T47 l0_1 x19_2).f0)) (shl .u64 1 ((rd_T47 l0_1 x19_2).f1)))) = 0 then (feed_grid_group.l1 k2 a1 x7_2 x8_2 l0_1 (l0_1.length : Int) (wrap64 (x19_2 + 1)) a0_0 l0_1 l0_2) else (if (Go.bits .and .u64 x7_2 (Go.bits .or .u64 (shl .u64 1 ((rd_T47 l0_1 x19_2).f0)) (shl .u64 1 ((rd_T47 l0_1 x19_2).f1)))) = (Go.bits .or .u64 (shl .u64 1 ((rd_T47 l0_1 x19_2).f0)) (shl .u64 1 ((rd_T47 l0_1 x19_2).f1))) then (feed_grid_group.l1 k2 a1 x7_2 x8_2 l0_1 (l0_1.length : Int) (wrap64 (x19_2 + 1)) a0_0 l0_1 l0_2) else (feed_grid_group.l1 k2 a1 (Go.bits .or .u64 x7_2 (Go.bits .or .u64 (shl .u64 1 ((rd_T47 l0_1 x19_2).f0)) (shl .u64 1 ((rd_T47 l0_1 x19_2).f1)))) true l0_1 (l0_1.length : Int) (wrap64 (x19_2 + 1)) a0_0 l0_1 l0_2))) else (none)) else (none))) = some r := by first | (rw [hji13] at H; exact H) | (simp only [hji13] at H ⊢; exact H)
          have hji13_ : (a1 / 2 ^ min x19_2.toNat 64) = ji13 := hji13
          have hji13z : x19_2 ≤ 64 → (a1 / 2 ^ x19_2.toNat) = ji13 := shr_small hji13
          by_cases c14 : (Go.bits .and .i64 (ji13) 1) = 0
          ·
           rw [if_pos c14] at H
           have c14b0 : ((Go.bits .and .i64 (ji13) 1) == 0) = true := beq_iff_eq.mpr c14
           have c14b1 : ((Go.bits .and .i64 (ji13) 1) != 0) = false := bne_eq_false_iff_eq.mpr c14
           clear c14
           have H' := Aside0.mk H
           clear H
           have p184 : 0 ≤ (x19_2 : Int) := of_decide_eq_true asz
           have q184 : x19_2 < (l0_1.length : Int) := of_decide_eq_true asz
           obtain ⟨ad184, e184, hx184_0, hx184_1⟩ := at_T47 HR0_1.out x19_2 p184 q184
           cases e184
           replace hx184_0 := (HB.out.cell (World.block_lt_of_cell? w _ hx184_0)).trans hx184_0
           replace hx184_1 := (HB.out.cell (World.block_lt_of_cell? w _ hx184_1)).trans hx184_1
           replace p184 := eq_true p184
           replace q184 := eq_true q184
           go_wp2_with (first | ((with_reducible refine gate_dst (N := 10) rfl ?_); refine box_event ?hg (N := 10) ?hd (cs := #[.int .i64 0, .int .i64 0]) (t := 47) ?hr ?_; (case hd => rfl); (case hg => rfl); (case hr => first | (go_simp; done) | (go_simp; rfl)); intro gb185 hg w15 hbox hb; have BK185 := Aside0.mk (hbox); have GW185 := bsz (w := w) hg; have GE185 := GW185; have NB183_185 := neL (g := gb183) hg; have NB185_183 := neR (g := gb183) hg; replace BK183 := Aside0.mk (blk_below (g := gb183) blkz hb); replace HB := Aside0.mk (below_step bel hb); clear hb hbox hg; have hnb16 := NB185_183.out; have hnc16 := NB183_185.out; obtain ⟨hcz17_0, hcz17_1⟩ := bc2 BK185.out; obtain ⟨hfz17_0, hfz17_1⟩ := bf2 BK185.out))
           repeat (go_quiet (first | ((with_reducible refine gate_dst (N := 10) rfl ?_); refine box_event ?hg (N := 10) ?hd (cs := #[.int .i64 0, .int .i64 0]) (t := 47) ?hr ?_; (case hd => rfl); (case hg => rfl); (case hr => first | (go_simp; done) | (go_simp; rfl)); intro gb185 hg w15 hbox hb; have BK185 := Aside0.mk (hbox); have GW185 := bsz (w := w) hg; have GE185 := GW185; have NB183_185 := neL (g := gb183) hg; have NB185_183 := neR (g := gb183) hg; replace BK183 := Aside0.mk (blk_below (g := gb183) blkz hb); replace HB := Aside0.mk (below_step bel hb); clear hb hbox hg; have hnb16 := NB185_183.out; have hnc16 := NB183_185.out; obtain ⟨hcz17_0, hcz17_1⟩ := bc2 BK185.out; obtain ⟨hfz17_0, hfz17_1⟩ := bf2 BK185.out)); try go_wp2_with (first | ((with_reducible refine gate_dst (N := 10) rfl ?_); refine box_event ?hg (N := 10) ?hd (cs := #[.int .i64 0, .int .i64 0]) (t := 47) ?hr ?_; (case hd => rfl); (case hg => rfl); (case hr => first | (go_simp; done) | (go_simp; rfl)); intro gb185 hg w15 hbox hb; have BK185 := Aside0.mk (hbox); have GW185 := bsz (w := w) hg; have GE185 := GW185; have NB183_185 := neL (g := gb183) hg; have NB185_183 := neR (g := gb183) hg; replace BK183 := Aside0.mk (blk_below (g := gb183) blkz hb); replace HB := Aside0.mk (below_step bel hb); clear hb hbox hg; have hnb16 := NB185_183.out; have hnc16 := NB183_185.out; obtain ⟨hcz17_0, hcz17_1⟩ := bc2 BK185.out; obtain ⟨hfz17_0, hfz17_1⟩ := bf2 BK185.out)))
           go_roundg k2
           case measure => have := HK1.out; have := HK2.out; omega
           case rel => exact ⟨(x7_2), (x8_2), (wrap64 (x19_2 + 1)), rsz, rsz, rsz, H', ⟨by have := HK1.out; have := HK2.out; omega⟩, ⟨by (with_reducible repeat (first | refine blk_drewN ?_ _ | refine blk_drew ?_ | refine blk_alloc ?_ _)); refine blk_far ?_ NB183_185.out _; (with_reducible repeat (first | refine blk_drewN ?_ _ | refine blk_drew ?_ | refine blk_alloc ?_ _)); refine blk_far ?_ NB183_185.out _; (with_reducible repeat (first | refine blk_drewN ?_ _ | refine blk_drew ?_ | refine blk_alloc ?_ _)); exact BK183.out⟩, ⟨bel⟩⟩
          ·
           rw [if_neg c14] at H
           have c14b0 : ((Go.bits .and .i64 (ji13) 1) == 0) = false := beq_eq_false_iff_ne.mpr c14
           have c14b1 : ((Go.bits .and .i64 (ji13) 1) != 0) = true := bne_iff_ne.mpr c14
           by_cases c18 : 0 ≤ ((rd_T47 l0_1 x19_2).f0)
           ·
            rw [if_pos c18] at H
            have c18b0 := eq_true c18
            have c18b1 : decide (0 ≤ ((rd_T47 l0_1 x19_2).f0)) = true := decide_eq_true c18
            clear c18
            obtain ⟨ji19, hji19⟩ : ∃ j_ : Int, (shl .u64 1 ((rd_T47 l0_1 x19_2).f0)) = j_ := ⟨_, rfl⟩
            replace H : (if 0 ≤ ((rd_T47 l0_1 x19_2).f1) then (if (Go.bits .and .u64 x7_2 (Go.bits .or .u64 (ji19) (shl .u64 1 ((rd_T47 l0_1 x19_2).f1)))) = 0 then (feed_grid_group.l1 k2 a1 x7_2 x8_2 l0_1 (l0_1.length : Int) (wrap64 (x19_2 + 1)) a0_0 l0_1 l0_2) else (if (Go.bits .and .u64 x7_2 (Go.bits .or .u64 (ji19) (shl .u64 1 ((rd_T47 l0_1 x19_2).f1)))) = (Go.bits .or .u64 (ji19) (shl .u64 1 ((rd_T47 l0_1 x19_2).f1))) then (feed_grid_group.l1 k2 a1 x7_2 x8_2 l0_1 (l0_1.length : Int) (wrap64 (x19_2 + 1)) a0_0 l0_1 l0_2) else (feed_grid_group.l1 k2 a1 (Go.bits .or .u64 x7_2 (Go.bits .or .u64 (ji19) (shl .u64 1 ((rd_T47 l0_1 x19_2).f1)))) true l0_1 (l0_1.length : Int) (wrap64 (x19_2 + 1)) a0_0 l0_1 l0_2))) else (none)) = some r := by first | (rw [hji19] at H; exact H) | (simp only [hji19] at H ⊢; exact H)
            have hji19_ : (IntKind.u64.wrap (1 * 2 ^ min ((rd_T47 l0_1 x19_2).f0).toNat 64)) = ji19 := hji19
            have hji19z : ((rd_T47 l0_1 x19_2).f0) ≤ 64 → (IntKind.u64.wrap (1 * 2 ^ ((rd_T47 l0_1 x19_2).f0).toNat)) = ji19 := shl_small hji19
            have hji19u : (IntKind.u64.wrap (2 ^ min ((rd_T47 l0_1 x19_2).f0).toNat 64)) = ji19 := by have h_ := hji19_; rw [Int.one_mul] at h_; exact h_
            have hji19v : ((rd_T47 l0_1 x19_2).f0) ≤ 64 → (IntKind.u64.wrap (2 ^ ((rd_T47 l0_1 x19_2).f0).toNat)) = ji19 := fun hle_ => by have h_ := hji19z hle_; rw [Int.one_mul] at h_; exact h_
            by_cases c20 : 0 ≤ ((rd_T47 l0_1 x19_2).f1)
            ·
             rw [if_pos c20] at H
             have c20b0 := eq_true c20
             have c20b1 : decide (0 ≤ ((rd_T47 l0_1 x19_2).f1)) = true := decide_eq_true c20
             clear c20
             obtain ⟨ji21, hji21⟩ : ∃ j_ : Int, (shl .u64 1 ((rd_T47 l0_1 x19_2).f1)) = j_ := ⟨_, rfl⟩
             replace H : (if (Go.bits .and .u64 x7_2 (Go.bits .or .u64 (ji19) (ji21))) = 0 then (feed_grid_group.l1 k2 a1 x7_2 x8_2 l0_1 (l0_1.length : Int) (wrap64 (x19_2 + 1)) a0_0 l0_1 l0_2) else (if (Go.bits .and .u64 x7_2 (Go.bits .or .u64 (ji19) (ji21))) = (Go.bits .or .u64 (ji19) (ji21)) then (feed_grid_group.l1 k2 a1 x7_2 x8_2 l0_1 (l0_1.length : Int) (wrap64 (x19_2 + 1)) a0_0 l0_1 l0_2) else (feed_grid_group.l1 k2 a1 (Go.bits .or .u64 x7_2 (Go.bits .or .u64 (ji19) (ji21))) true l0_1 (l0_1.length : Int) (wrap64 (x19_2 + 1)) a0_0 l0_1 l0_2))) = some r := by first | (rw [hji21] at H; exact H) | (simp only [hji21] at H ⊢; exact H)
             have hji21_ : (IntKind.u64.wrap (1 * 2 ^ min ((rd_T47 l0_1 x19_2).f1).toNat 64)) = ji21 := hji21
             have hji21z : ((rd_T47 l0_1 x19_2).f1) ≤ 64 → (IntKind.u64.wrap (1 * 2 ^ ((rd_T47 l0_1 x19_2).f1).toNat)) = ji21 := shl_small hji21
             have hji21u : (IntKind.u64.wrap (2 ^ min ((rd_T47 l0_1 x19_2).f1).toNat 64)) = ji21 := by have h_ := hji21_; rw [Int.one_mul] at h_; exact h_
             have hji21v : ((rd_T47 l0_1 x19_2).f1) ≤ 64 → (IntKind.u64.wrap (2 ^ ((rd_T47 l0_1 x19_2).f1).toNat)) = ji21 := fun hle_ => by have h_ := hji21z hle_; rw [Int.one_mul] at h_; exact h_
             by_cases c22 : (Go.bits .and .u64 x7_2 (Go.bits .or .u64 (ji19) (ji21))) = 0
             ·
              rw [if_pos c22] at H
              have c22b0 : ((Go.bits .and .u64 x7_2 (Go.bits .or .u64 (ji19) (ji21))) == 0) = true := beq_iff_eq.mpr c22
              have c22b1 : ((Go.bits .and .u64 x7_2 (Go.bits .or .u64 (ji19) (ji21))) != 0) = false := bne_eq_false_iff_eq.mpr c22
              clear c22
              have H' := Aside0.mk H
              clear H
              have p184 : 0 ≤ (x19_2 : Int) := of_decide_eq_true asz
              have q184 : x19_2 < (l0_1.length : Int) := of_decide_eq_true asz
              obtain ⟨ad184, e184, hx184_0, hx184_1⟩ := at_T47 HR0_1.out x19_2 p184 q184
              cases e184
              replace hx184_0 := (HB.out.cell (World.block_lt_of_cell? w _ hx184_0)).trans hx184_0
              replace hx184_1 := (HB.out.cell (World.block_lt_of_cell? w _ hx184_1)).trans hx184_1
              replace p184 := eq_true p184
              replace q184 := eq_true q184
              go_wp2_with (first | ((with_reducible refine gate_dst (N := 10) rfl ?_); refine box_event ?hg (N := 10) ?hd (cs := #[.int .i64 0, .int .i64 0]) (t := 47) ?hr ?_; (case hd => rfl); (case hg => rfl); (case hr => first | (go_simp; done) | (go_simp; rfl)); intro gb185 hg w23 hbox hb; have BK185 := Aside0.mk (hbox); have GW185 := bsz (w := w) hg; have GE185 := GW185; have NB183_185 := neL (g := gb183) hg; have NB185_183 := neR (g := gb183) hg; replace BK183 := Aside0.mk (blk_below (g := gb183) blkz hb); replace HB := Aside0.mk (below_step bel hb); clear hb hbox hg; have hnb24 := NB185_183.out; have hnc24 := NB183_185.out; obtain ⟨hcz25_0, hcz25_1⟩ := bc2 BK185.out; obtain ⟨hfz25_0, hfz25_1⟩ := bf2 BK185.out))
              repeat (go_quiet (first | ((with_reducible refine gate_dst (N := 10) rfl ?_); refine box_event ?hg (N := 10) ?hd (cs := #[.int .i64 0, .int .i64 0]) (t := 47) ?hr ?_; (case hd => rfl); (case hg => rfl); (case hr => first | (go_simp; done) | (go_simp; rfl)); intro gb185 hg w23 hbox hb; have BK185 := Aside0.mk (hbox); have GW185 := bsz (w := w) hg; have GE185 := GW185; have NB183_185 := neL (g := gb183) hg; have NB185_183 := neR (g := gb183) hg; replace BK183 := Aside0.mk (blk_below (g := gb183) blkz hb); replace HB := Aside0.mk (below_step bel hb); clear hb hbox hg; have hnb24 := NB185_183.out; have hnc24 := NB183_185.out; obtain ⟨hcz25_0, hcz25_1⟩ := bc2 BK185.out; obtain ⟨hfz25_0, hfz25_1⟩ := bf2 BK185.out)); try go_wp2_with (first | ((with_reducible refine gate_dst (N := 10) rfl ?_); refine box_event ?hg (N := 10) ?hd (cs := #[.int .i64 0, .int .i64 0]) (t := 47) ?hr ?_; (case hd => rfl); (case hg => rfl); (case hr => first | (go_simp; done) | (go_simp; rfl)); intro gb185 hg w23 hbox hb; have BK185 := Aside0.mk (hbox); have GW185 := bsz (w := w) hg; have GE185 := GW185; have NB183_185 := neL (g := gb183) hg; have NB185_183 := neR (g := gb183) hg; replace BK183 := Aside0.mk (blk_below (g := gb183) blkz hb); replace HB := Aside0.mk (below_step bel hb); clear hb hbox hg; have hnb24 := NB185_183.out; have hnc24 := NB183_185.out; obtain ⟨hcz25_0, hcz25_1⟩ := bc2 BK185.out; obtain ⟨hfz25_0, hfz25_1⟩ := bf2 BK185.out)))
              go_roundg k2
              case measure => have := HK1.out; have := HK2.out; omega
              case rel => exact ⟨(x7_2), (x8_2), (wrap64 (x19_2 + 1)), rsz, rsz, rsz, H', ⟨by have := HK1.out; have := HK2.out; omega⟩, ⟨by (with_reducible repeat (first | refine blk_drewN ?_ _ | refine blk_drew ?_ | refine blk_alloc ?_ _)); refine blk_far ?_ NB183_185.out _; (with_reducible repeat (first | refine blk_drewN ?_ _ | refine blk_drew ?_ | refine blk_alloc ?_ _)); refine blk_far ?_ NB183_185.out _; (with_reducible repeat (first | refine blk_drewN ?_ _ | refine blk_drew ?_ | refine blk_alloc ?_ _)); exact BK183.out⟩, ⟨bel⟩⟩
             ·
              rw [if_neg c22] at H
              have c22b0 : ((Go.bits .and .u64 x7_2 (Go.bits .or .u64 (ji19) (ji21))) == 0) = false := beq_eq_false_iff_ne.mpr c22
              have c22b1 : ((Go.bits .and .u64 x7_2 (Go.bits .or .u64 (ji19) (ji21))) != 0) = true := bne_iff_ne.mpr c22
              by_cases c26 : (Go.bits .and .u64 x7_2 (Go.bits .or .u64 (ji19) (ji21))) = (Go.bits .or .u64 (ji19) (ji21))
              ·
               rw [if_pos c26] at H
               have c26b0 : ((Go.bits .and .u64 x7_2 (Go.bits .or .u64 (ji19) (ji21))) == (Go.bits .or .u64 (ji19) (ji21))) = true := beq_iff_eq.mpr c26
               have c26b1 : ((Go.bits .and .u64 x7_2 (Go.bits .or .u64 (ji19) (ji21))) != (Go.bits .or .u64 (ji19) (ji21))) = false := bne_eq_false_iff_eq.mpr c26
               clear c26
               have H' := Aside0.mk H
               clear H
               have p184 : 0 ≤ (x19_2 : Int) := of_decide_eq_true asz
               have q184 : x19_2 < (l0_1.length : Int) := of_decide_eq_true asz
               obtain ⟨ad184, e184, hx184_0, hx184_1⟩ := at_T47 HR0_1.out x19_2 p184 q184
               cases e184
               replace hx184_0 := (HB.out.cell (World.block_lt_of_cell? w _ hx184_0)).trans hx184_0
               replace hx184_1 := (HB.out.cell (World.block_lt_of_cell? w _ hx184_1)).trans hx184_1
               replace p184 := eq_true p184
               replace q184 := eq_true q184
               go_wp2_with (first | ((with_reducible refine gate_dst (N := 10) rfl ?_); refine box_event ?hg (N := 10) ?hd (cs := #[.int .i64 0, .int .i64 0]) (t := 47) ?hr ?_; (case hd => rfl); (case hg => rfl); (case hr => first | (go_simp; done) | (go_simp; rfl)); intro gb185 hg w27 hbox hb; have BK185 := Aside0.mk (hbox); have GW185 := bsz (w := w) hg; have GE185 := GW185; have NB183_185 := neL (g := gb183) hg; have NB185_183 := neR (g := gb183) hg; replace BK183 := Aside0.mk (blk_below (g := gb183) blkz hb); replace HB := Aside0.mk (below_step bel hb); clear hb hbox hg; have hnb28 := NB185_183.out; have hnc28 := NB183_185.out; obtain ⟨hcz29_0, hcz29_1⟩ := bc2 BK185.out; obtain ⟨hfz29_0, hfz29_1⟩ := bf2 BK185.out))
               repeat (go_quiet (first | ((with_reducible refine gate_dst (N := 10) rfl ?_); refine box_event ?hg (N := 10) ?hd (cs := #[.int .i64 0, .int .i64 0]) (t := 47) ?hr ?_; (case hd => rfl); (case hg => rfl); (case hr => first | (go_simp; done) | (go_simp; rfl)); intro gb185 hg w27 hbox hb; have BK185 := Aside0.mk (hbox); have GW185 := bsz (w := w) hg; have GE185 := GW185; have NB183_185 := neL (g := gb183) hg; have NB185_183 := neR (g := gb183) hg; replace BK183 := Aside0.mk (blk_below (g := gb183) blkz hb); replace HB := Aside0.mk (below_step bel hb); clear hb hbox hg; have hnb28 := NB185_183.out; have hnc28 := NB183_185.out; obtain ⟨hcz29_0, hcz29_1⟩ := bc2 BK185.out; obtain ⟨hfz29_0, hfz29_1⟩ := bf2 BK185.out)); try go_wp2_with (first | ((with_reducible refine gate_dst (N := 10) rfl ?_); refine box_event ?hg (N := 10) ?hd (cs := #[.int .i64 0, .int .i64 0]) (t := 47) ?hr ?_; (case hd => rfl); (case hg => rfl); (case hr => first | (go_simp; done) | (go_simp; rfl)); intro gb185 hg w27 hbox hb; have BK185 := Aside0.mk (hbox); have GW185 := bsz (w := w) hg; have GE185 := GW185; have NB183_185 := neL (g := gb183) hg; have NB185_183 := neR (g := gb183) hg; replace BK183 := Aside0.mk (blk_below (g := gb183) blkz hb); replace HB := Aside0.mk (below_step bel hb); clear hb hbox hg; have hnb28 := NB185_183.out; have hnc28 := NB183_185.out; obtain ⟨hcz29_0, hcz29_1⟩ := bc2 BK185.out; obtain ⟨hfz29_0, hfz29_1⟩ := bf2 BK185.out)))
               go_roundg k2
               case measure => have := HK1.out; have := HK2.out; omega
               case rel => exact ⟨(x7_2), (x8_2), (wrap64 (x19_2 + 1)), rsz, rsz, rsz, H', ⟨by have := HK1.out; have := HK2.out; omega⟩, ⟨by (with_reducible repeat (first | refine blk_drewN ?_ _ | refine blk_drew ?_ | refine blk_alloc ?_ _)); refine blk_far ?_ NB183_185.out _; (with_reducible repeat (first | refine blk_drewN ?_ _ | refine blk_drew ?_ | refine blk_alloc ?_ _)); refine blk_far ?_ NB183_185.out _; (with_reducible repeat (first | refine blk_drewN ?_ _ | refine blk_drew ?_ | refine blk_alloc ?_ _)); exact BK183.out⟩, ⟨bel⟩⟩
              ·
               rw [if_neg c26] at H
               have c26b0 : ((Go.bits .and .u64 x7_2 (Go.bits .or .u64 (ji19) (ji21))) == (Go.bits .or .u64 (ji19) (ji21))) = false := beq_eq_false_iff_ne.mpr c26
               have c26b1 : ((Go.bits .and .u64 x7_2 (Go.bits .or .u64 (ji19) (ji21))) != (Go.bits .or .u64 (ji19) (ji21))) = true := bne_iff_ne.mpr c26
               have H' := Aside0.mk H
               clear H
               have p184 : 0 ≤ (x19_2 : Int) := of_decide_eq_true asz
               have q184 : x19_2 < (l0_1.length : Int) := of_decide_eq_true asz
               obtain ⟨ad184, e184, hx184_0, hx184_1⟩ := at_T47 HR0_1.out x19_2 p184 q184
               cases e184
               replace hx184_0 := (HB.out.cell (World.block_lt_of_cell? w _ hx184_0)).trans hx184_0
               replace hx184_1 := (HB.out.cell (World.block_lt_of_cell? w _ hx184_1)).trans hx184_1
               replace p184 := eq_true p184
               replace q184 := eq_true q184
               go_wp2_with (first | ((with_reducible refine gate_dst (N := 10) rfl ?_); refine box_event ?hg (N := 10) ?hd (cs := #[.int .i64 0, .int .i64 0]) (t := 47) ?hr ?_; (case hd => rfl); (case hg => rfl); (case hr => first | (go_simp; done) | (go_simp; rfl)); intro gb185 hg w30 hbox hb; have BK185 := Aside0.mk (hbox); have GW185 := bsz (w := w) hg; have GE185 := GW185; have NB183_185 := neL (g := gb183) hg; have NB185_183 := neR (g := gb183) hg; replace BK183 := Aside0.mk (blk_below (g := gb183) blkz hb); replace HB := Aside0.mk (below_step bel hb); clear hb hbox hg; have hnb31 := NB185_183.out; have hnc31 := NB183_185.out; obtain ⟨hcz32_0, hcz32_1⟩ := bc2 BK185.out; obtain ⟨hfz32_0, hfz32_1⟩ := bf2 BK185.out))
               repeat (go_quiet (first | ((with_reducible refine gate_dst (N := 10) rfl ?_); refine box_event ?hg (N := 10) ?hd (cs := #[.int .i64 0, .int .i64 0]) (t := 47) ?hr ?_; (case hd => rfl); (case hg => rfl); (case hr => first | (go_simp; done) | (go_simp; rfl)); intro gb185 hg w30 hbox hb; have BK185 := Aside0.mk (hbox); have GW185 := bsz (w := w) hg; have GE185 := GW185; have NB183_185 := neL (g := gb183) hg; have NB185_183 := neR (g := gb183) hg; replace BK183 := Aside0.mk (blk_below (g := gb183) blkz hb); replace HB := Aside0.mk (below_step bel hb); clear hb hbox hg; have hnb31 := NB185_183.out; have hnc31 := NB183_185.out; obtain ⟨hcz32_0, hcz32_1⟩ := bc2 BK185.out; obtain ⟨hfz32_0, hfz32_1⟩ := bf2 BK185.out)); try go_wp2_with (first | ((with_reducible refine gate_dst (N := 10) rfl ?_); refine box_event ?hg (N := 10) ?hd (cs := #[.int .i64 0, .int .i64 0]) (t := 47) ?hr ?_; (case hd => rfl); (case hg => rfl); (case hr => first | (go_simp; done) | (go_simp; rfl)); intro gb185 hg w30 hbox hb; have BK185 := Aside0.mk (hbox); have GW185 := bsz (w := w) hg; have GE185 := GW185; have NB183_185 := neL (g := gb183) hg; have NB185_183 := neR (g := gb183) hg; replace BK183 := Aside0.mk (blk_below (g := gb183) blkz hb); replace HB := Aside0.mk (below_step bel hb); clear hb hbox hg; have hnb31 := NB185_183.out; have hnc31 := NB183_185.out; obtain ⟨hcz32_0, hcz32_1⟩ := bc2 BK185.out; obtain ⟨hfz32_0, hfz32_1⟩ := bf2 BK185.out)))
               go_roundg k2
               case measure => have := HK1.out; have := HK2.out; omega
               case rel => exact ⟨(Go.bits .or .u64 x7_2 (Go.bits .or .u64 (ji19) (ji21))), (true), (wrap64 (x19_2 + 1)), (by first | rfl | (simp; done) | (simp only [← hji19, ← hji21] <;> (first | rfl | simp)) | (simp [*]; done)), rsz, rsz, H', ⟨by have := HK1.out; have := HK2.out; omega⟩, ⟨by (with_reducible repeat (first | refine blk_drewN ?_ _ | refine blk_drew ?_ | refine blk_alloc ?_ _)); refine blk_far ?_ NB183_185.out _; (with_reducible repeat (first | refine blk_drewN ?_ _ | refine blk_drew ?_ | refine blk_alloc ?_ _)); refine blk_far ?_ NB183_185.out _; (with_reducible repeat (first | refine blk_drewN ?_ _ | refine blk_drew ?_ | refine blk_alloc ?_ _)); exact BK183.out⟩, ⟨bel⟩⟩
            ·
             rw [if_neg c20] at H
             exact absurd H (by simp)
           ·
            rw [if_neg c18] at H
            exact absurd H (by simp)
         ·
          rw [if_neg c11] at H
          exact absurd H (by simp)
        ·
         rw [if_neg c10] at H
         exact absurd H (by simp)
       ·
        rw [if_neg c9] at H
        have c9b0 : decide (x19_2 < (l0_1.length : Int)) = false := decide_eq_false c9
        clear c9
        have H' := Aside0.mk H
        clear H
        go_wp2
        repeat (go_quiet (fail); try go_wp2)
        go_roundg k2
        case measure => have := HK1.out; have := HK2.out; omega
        case rel => exact ⟨(x7_2), (x8_2), rsz, rsz, H', ⟨by have := HK1.out; have := HK2.out; omega⟩, ⟨blkz⟩, ⟨bel⟩⟩
    ·
     replace c7 := Bool.eq_false_iff.mpr c7
     subst c7
     rw [if_neg (show ¬ (false = true) by decide)] at H
     obtain rfl := Option.some.inj H
     go_wp2
     repeat (go_quiet (fail); try go_wp2)
     go_ret
     exact ⟨by first | rfl | (simp [errW_none, errW_some] <;> rfl) | (simp only [← hji5]; first | rfl | (simp [errW_none, errW_some] <;> rfl)) | (simp [*, errW_none, errW_some] <;> rfl), bel⟩
 ·
  rw [if_neg c4] at H
  exact absurd H (by simp)

/-! ### feed_grid_fed: function 53 -/
mutual
def feed_grid_fed.l0 : Nat → Int → List Int → List (S49) → Int → Int → Int → List (S47) → List (S49) → Option (List Int)
 | 0, _, _, _, _, _, _, _, _ => none
 | k + 1, x1, x5, x16, x17, x18, x187000, x187001, x187002 => if x18 < x17 then (if 0 ≤ x18 then (if x18 < (x16.length : Int) then ((feed_grid_group.f k x187000 x187001 x187002 x1 ((rd_T49 x16 x18).f0)).bind fun t192 => (feed_grid_fed.l1 k x1 x5 t192 x16 x17 x18 (x5.length : Int) 0 x187000 x187001 x187002 ((rd_T49 x16 x18).f0) ((rd_T49 x16 x18).f1))) else (none)) else (none)) else (some x5)
def feed_grid_fed.l1 : Nat → Int → List Int → Int → List (S49) → Int → Int → Int → Int → Int → List (S47) → List (S49) → Int → Int → Option (List Int)
 | 0, _, _, _, _, _, _, _, _, _, _, _, _, _ => none
 | k + 1, x1, x5, x8, x16, x17, x18, x28, x29, x187000, x187001, x187002, x192000, x192001 => if x29 < x28 then (if 0 ≤ x29 then (if (Go.bits .and .u64 (shr .u64 x8 x29) 1) = 1 then (if x29 < (x5.length : Int) then (if 0 ≤ x192001 then (feed_grid_fed.l1 k x1 (x5.set (x29 : Int).toNat (Go.bits .or .u64 (rd x5 x29) (shl .u64 1 x192001))) x8 x16 x17 x18 x28 (wrap64 (x29 + 1)) x187000 x187001 x187002 x192000 x192001) else (none)) else (none)) else (feed_grid_fed.l1 k x1 x5 x8 x16 x17 x18 x28 (wrap64 (x29 + 1)) x187000 x187001 x187002 x192000 x192001)) else (none)) else (feed_grid_fed.l0 k x1 x5 x16 x17 (wrap64 (x18 + 1)) x187000 x187001 x187002)
end
def feed_grid_fed.f (k : Nat) (a0_0 : Int) (l0_1 : List (S47)) (l0_2 : List (S49)) (a1 : Int) : Option (List Int) := if 0 ≤ a0_0 then (if (a0_0 : Int).toNat ≤ 35184372088832 then (feed_grid_fed.l0 k a1 (List.replicate (a0_0 : Int).toNat 0) l0_2 (l0_2.length : Int) 0 a0_0 l0_1 l0_2) else (none)) else (none)
theorem feed_grid_fed.mono_l : ∀ k, (∀ y0 y1 y2 y3 y4 y5 y6 y7, LeO (feed_grid_fed.l0 k y0 y1 y2 y3 y4 y5 y6 y7) (feed_grid_fed.l0 (k + 1) y0 y1 y2 y3 y4 y5 y6 y7)) ∧ (∀ y0 y1 y2 y3 y4 y5 y6 y7 y8 y9 y10 y11 y12, LeO (feed_grid_fed.l1 k y0 y1 y2 y3 y4 y5 y6 y7 y8 y9 y10 y11 y12) (feed_grid_fed.l1 (k + 1) y0 y1 y2 y3 y4 y5 y6 y7 y8 y9 y10 y11 y12))
 | 0 => ⟨fun _ _ _ _ _ _ _ _ r h => by simp [feed_grid_fed.l0] at h, fun _ _ _ _ _ _ _ _ _ _ _ _ _ r h => by simp [feed_grid_fed.l1] at h⟩
 | k + 1 => by
  obtain ⟨ih0, ih1⟩ := feed_grid_fed.mono_l k
  refine ⟨?_, ?_⟩
  ·
   intro y0 y1 y2 y3 y4 y5 y6 y7
   unfold feed_grid_fed.l0
   repeat' first
   | (with_reducible exact ih0 _ _ _ _ _ _ _ _)
   | (with_reducible exact ih1 _ _ _ _ _ _ _ _ _ _ _ _ _)
   | (with_reducible exact feed_grid_group.mono _ _ _ _ _ _)
   | (with_reducible exact LeO.refl _)
   | (with_reducible exact LeO.none _)
   | (with_reducible refine LeO.ite ?_ ?_)
   | (with_reducible refine LeO.bind ?_ (fun _ => ?_))
   | exact ih0 _ _ _ _ _ _ _ _
   | exact ih1 _ _ _ _ _ _ _ _ _ _ _ _ _
   | exact feed_grid_group.mono _ _ _ _ _ _
   | exact LeO.none _
   | refine LeO.ite ?_ ?_
   | refine LeO.bind ?_ (fun _ => ?_)
  ·
   intro y0 y1 y2 y3 y4 y5 y6 y7 y8 y9 y10 y11 y12
   unfold feed_grid_fed.l1
   repeat' first
   | (with_reducible exact ih0 _ _ _ _ _ _ _ _)
   | (with_reducible exact ih1 _ _ _ _ _ _ _ _ _ _ _ _ _)
   | (with_reducible exact feed_grid_group.mono _ _ _ _ _ _)
   | (with_reducible exact LeO.refl _)
   | (with_reducible exact LeO.none _)
   | (with_reducible refine LeO.ite ?_ ?_)
   | (with_reducible refine LeO.bind ?_ (fun _ => ?_))
   | exact ih0 _ _ _ _ _ _ _ _
   | exact ih1 _ _ _ _ _ _ _ _ _ _ _ _ _
   | exact feed_grid_group.mono _ _ _ _ _ _
   | exact LeO.none _
   | refine LeO.ite ?_ ?_
   | refine LeO.bind ?_ (fun _ => ?_)
theorem feed_grid_fed.mono : ∀ a0 a1 a2 a3 k, LeO (feed_grid_fed.f k a0 a1 a2 a3) (feed_grid_fed.f (k + 1) a0 a1 a2 a3) := by
 intro a0 a1 a2 a3 k
 obtain ⟨ih0, ih1⟩ := feed_grid_fed.mono_l k
 unfold feed_grid_fed.f
 repeat' first
   | (with_reducible exact ih0 _ _ _ _ _ _ _ _)
   | (with_reducible exact ih1 _ _ _ _ _ _ _ _ _ _ _ _ _)
   | (with_reducible exact feed_grid_group.mono _ _ _ _ _ _)
   | (with_reducible exact LeO.refl _)
   | (with_reducible exact LeO.none _)
   | (with_reducible refine LeO.ite ?_ ?_)
   | (with_reducible refine LeO.bind ?_ (fun _ => ?_))
   | exact ih0 _ _ _ _ _ _ _ _
   | exact ih1 _ _ _ _ _ _ _ _ _ _ _ _ _
   | exact feed_grid_group.mono _ _ _ _ _ _
   | exact LeO.none _
   | refine LeO.ite ?_ ?_
   | refine LeO.bind ?_ (fun _ => ?_)
def feed_grid_fed.T10 : Bool × List (List Nat × List Nat) := (true, [([], []), ([], []), ([0, 1], [0, 1]), ([2], [2]), ([], []), ([4], [4]), ([5], [5]), ([3, 6], [3, 6]), ([0, 1, 0, 1, 2, 3, 4, 5, 6, 7], [0, 1]), ([8, 7, 0, 1, 2, 3, 4, 5, 6, 7], [7, 8])])
def feed_grid_fed.B10 : List Nat := [0, 0, 3, 7, 0, 16, 48, 127, 255, 511]
theorem feed_grid_fed.tab10 : rtab .any (opsOf Tryd.f53 10) = feed_grid_fed.T10 := by kernel_rfl
theorem feed_grid_fed.bits10 : waitsOk feed_grid_fed.T10.2 feed_grid_fed.B10 = true := by kernel_rfl
set_option maxHeartbeats 8000000 in
set_option maxRecDepth 100000 in
theorem feed_grid_fed.calls (k : Nat) (a0_0 : Int) (A0_1 : Option Addr) (c0_1 : Nat) (l0_1 : List (S47)) (A0_2 : Option Addr) (c0_2 : Nat) (l0_2 : List (S49)) (a1 : Int) (r : List Int) (w : World) (hr0_1 : Kd.C k47 w A0_1 l0_1.length l0_1) (hc0_1 : l0_1.length ≤ c0_1) (hr0_2 : Kd.C k49 w A0_2 l0_2.length l0_2) (hc0_2 : l0_2.length ≤ c0_2) (h : feed_grid_fed.f k a0_0 l0_1 l0_2 a1 = some r) :
  Calls Tryd.prog 53 #[.agg #[.int .i64 a0_0, .slice A0_1 l0_1.length c0_1, .slice A0_2 l0_2.length c0_2], .int .i64 a1] w fun e w' => ∃ v0_ : Value, e = .returned (v0_) ∧ Kd.R (Kd.int .u64) 80 w' w.heap.size (fun _ => True) v0_ r ∧ Below w.heap.size w w' := by
 have hu54 := Tryd.underlying54
 have hu49 := Tryd.underlying49
 have HR0_1 := Aside0.mk hr0_1
 have HC0_1 := Aside0.mk hc0_1
 clear hr0_1 hc0_1
 have HR0_2 := Aside0.mk hr0_2
 have HC0_2 := Aside0.mk hc0_2
 clear hr0_2 hc0_2
 have HB := Aside0.mk (Below.refl w.heap.size w)
 have H : (if 0 ≤ a0_0 then (if (a0_0 : Int).toNat ≤ 35184372088832 then (feed_grid_fed.l0 k a1 (List.replicate (a0_0 : Int).toNat 0) l0_2 (l0_2.length : Int) 0 a0_0 l0_1 l0_2) else (none)) else (none)) = some r := h
 clear h
 by_cases c3 : 0 ≤ a0_0
 ·
  rw [if_pos c3] at H
  have c3b0 := eq_true c3
  have c3b1 : decide (0 ≤ a0_0) = true := decide_eq_true c3
  clear c3
  by_cases c4 : (a0_0 : Int).toNat ≤ 35184372088832
  ·
   rw [if_pos c4] at H
   have c4b0 := eq_true c4
   have c4b1 : decide ((a0_0 : Int).toNat ≤ 35184372088832) = true := decide_eq_true c4
   clear c4
   obtain ⟨y187, hy187⟩ : ∃ y_ : List Int, y_ = (List.replicate (a0_0 : Int).toNat 0) := ⟨_, rfl⟩
   replace H : (feed_grid_fed.l0 k a1 y187 l0_2 (l0_2.length : Int) 0 a0_0 l0_1 l0_2) = some r := by first | (rw [hy187]; with_reducible exact H) | (have H2_ := (Option.bind_some _ _).symm.trans H; rw [hy187]; with_reducible exact H2_) | (have H2_ := (Option.bind_some _ _).symm.trans H; with_reducible exact H2_) | with_reducible exact H | (rw [hy187]; exact H) | exact H
   have Ny187 := Aside0.mk hy187
   clear hy187
   have H' := Aside0.mk H
   clear H
   go_enter Tryd.func53, Tryd.ntmps53
   go_wp2_with (first | ((with_reducible refine gate_dst (N := 2) rfl ?_); refine box_event ?hg (N := 2) ?hd (cs := #[.int .i64 a0_0, .slice A0_1 l0_1.length c0_1, .slice A0_2 l0_2.length c0_2]) (t := 54) ?hr ?_; (case hd => rfl); (case hg => rfl); (case hr => first | (go_simp; done) | (go_simp; rfl)); intro gb186 hg w5 hbox hb; have BK186 := Aside0.mk (hbox); have GW186 := bsz (w := w) hg; have GE186 := GW186; replace HB := Aside0.mk (below_step bel hb); clear hb hbox hg; obtain ⟨hcz6_0, hcz6_1, hcz6_2⟩ := bc3 BK186.out) | ((with_reducible refine gate_dst (N := 13) rfl ?_); refine Kd.R_make (Kd.int .u64) _ 80 rfl (N := 13) rfl 86 _ _ rfl a0_0 rfl rfl Tryd.underlying86 (.int .u64 0) 8 info80 rfl (by decide) (by omega) 0 (ok := fun _ => True) (okp := fun _ => True) rfl (fun _ hk => hk) trivial (of_decide_eq_true asz) (Nat.le_trans (Nat.mul_le_mul_right _ (of_decide_eq_true asz : a0_0.toNat ≤ 35184372088832)) (by omega)) (Below.refl _ _) (Nat.le_refl _) ?_; intro v188 w7 ho8 hb hg_ hnew_; clear hg_ hnew_; (first | rw [← Ny187.out] at ho8 | (simp only [Int.reduceToNat] at ho8; rw [← Ny187.out] at ho8)); have HO189 := Aside0.mk (Kd.R_lower ho8 (below_size bel)); replace BK186 := Aside0.mk (blk_below (g := gb186) blkz hb); replace HB := Aside0.mk (below_step bel hb); clear hb ho8; obtain ⟨hcz9_0, hcz9_1, hcz9_2⟩ := bc3 BK186.out))
   go_loopg [18] k (fun kq v18 w' => ∃ (x5_1 : List Int) (x18_1 : Int), v18 = .int .i64 x18_1 ∧ Aside0 (feed_grid_fed.l0 kq a1 x5_1 l0_2 (l0_2.length : Int) x18_1 a0_0 l0_1 l0_2 = some r) ∧ Aside0 (kq ≤ k) ∧ Aside0 (Kd.R (Kd.int .u64) 80 w' w.heap.size (fun _ => True) v188 x5_1) ∧ Aside0 (w'.heap[gb186]? = some (.cells #[.int .i64 a0_0, (.slice A0_1 l0_1.length c0_1), (.slice A0_2 l0_2.length c0_2)] 54 (0, 0))) ∧ Aside0 (Below w.heap.size w w'))
   case atStart => exact ⟨(y187), (0), rsz, H', ⟨Nat.le_refl _⟩, ⟨by (with_reducible repeat (first | apply Kd.R_alloc | apply Kd.R_drewN | apply Kd.R_drew)); exact HO189.out⟩, ⟨blkz⟩, ⟨bel⟩⟩
   case round =>
    clear H'
    (try clear p2); (try clear c3); (try clear c3b0); (try clear c3b1); (try clear c4); (try clear c4b0); (try clear c4b1); (try clear c5); (try clear hcz6_0); (try clear hcz6_1); (try clear hcz6_2); (try clear hcz9_0); (try clear hcz9_1); (try clear hcz9_2); (try clear hfz6_0); (try clear hfz6_1); (try clear hfz6_2); (try clear hfz9_0); (try clear hfz9_1); (try clear hfz9_2)
    obtain ⟨x5_1, x18_1, rfl, HA, HK1, HO_5, BK186, HB⟩ := hrel
    cases gk with
    | zero => exact absurd HA.out (by simp [feed_grid_fed.l0])
    | succ k1 =>
     have H := HA.out
     clear HA
     simp only [feed_grid_fed.l0] at H
     by_cases c10 : x18_1 < (l0_2.length : Int)
     ·
      rw [if_pos c10] at H
      have c10b0 : decide (x18_1 < (l0_2.length : Int)) = true := decide_eq_true c10
      clear c10
      by_cases c11 : 0 ≤ x18_1
      ·
       rw [if_pos c11] at H
       have c11b0 : decide (0 ≤ x18_1) = true := decide_eq_true c11
       clear c11
       by_cases c12 : x18_1 < (l0_2.length : Int)
       ·
        rw [if_pos c12] at H
        have c12b0 : decide (x18_1 < (l0_2.length : Int)) = true := decide_eq_true c12
        clear c12
        replace H := Option.bind_eq_some_iff.mp H
        obtain ⟨t192, A130, H⟩ := H
        try dsimp only at H
        have A13 := Aside0.mk A130
        clear A130
        have H' := Aside0.mk H
        clear H
        have p190 : 0 ≤ (x18_1 : Int) := of_decide_eq_true asz
        have q190 : x18_1 < (l0_2.length : Int) := of_decide_eq_true asz
        obtain ⟨ad190, e190, hx190_0, hx190_1⟩ := at_T49 HR0_2.out x18_1 p190 q190
        cases e190
        replace hx190_0 := (HB.out.cell (World.block_lt_of_cell? w _ hx190_0)).trans hx190_0
        replace hx190_1 := (HB.out.cell (World.block_lt_of_cell? w _ hx190_1)).trans hx190_1
        replace p190 := eq_true p190
        replace q190 := eq_true q190
        go_wp2_with (first | ((with_reducible refine gate_dst (N := 7) rfl ?_); refine box_event ?hg (N := 7) ?hd (cs := #[.int .i64 0, .int .i64 0]) (t := 49) ?hr ?_; (case hd => rfl); (case hg => rfl); (case hr => first | (go_simp; done) | (go_simp; rfl)); intro gb191 hg w14 hbox hb; have BK191 := Aside0.mk (hbox); have GW191 := bsz (w := w) hg; have GE191 := GW191; have NB186_191 := neL (g := gb186) hg; have NB191_186 := neR (g := gb186) hg; replace HO_5 := Aside0.mk (Kd.R_below (ownx HO_5) hb); replace BK186 := Aside0.mk (blk_below (g := gb186) blkz hb); replace HB := Aside0.mk (below_step bel hb); clear hb hbox hg; have hnb15 := NB191_186.out; have hnc15 := NB186_191.out; obtain ⟨hcz16_0, hcz16_1⟩ := bc2 BK191.out; obtain ⟨hfz16_0, hfz16_1⟩ := bf2 BK191.out; obtain ⟨hcz17_0, hcz17_1, hcz17_2⟩ := bc3 BK186.out) | ((with_reducible refine gate_callee (f := 78) rfl ?_); refine goesL_ (some 26) rfl rfl Tryd.func78 (by kernel_rfl) rfl #[.agg #[.int .i64 a0_0, .slice A0_1 l0_1.length c0_1, .slice (some ad190) l0_2.length c0_2], .int .i64 a1, .int .i64 ((rd_T49 l0_2 x18_1).f0)] rfl mapz ?_; (with_reducible refine (feed_grid_group.calls k1 a0_0 _ _ l0_1 _ _ l0_2 a1 ((rd_T49 l0_2 x18_1).f0) t192 _ (cbz HR0_1) HC0_1.out (cbz HR0_2) HC0_2.out A13.out).mono ?_); rintro e w18 ⟨rfl, hb⟩; refine ⟨_, rfl, ?_⟩; replace HO_5 := Aside0.mk (Kd.R_below (by (with_reducible repeat (first | apply Kd.R_alloc | apply Kd.R_drewN | apply Kd.R_drew)); exact (Kd.R_mono (Kd.R_far (p := ⟨gb191, 1, none⟩) (Kd.R_far (p := ⟨gb191, 0, none⟩) (Kd.R_types HO_5.out BK191.out (by decide)) (fun _ hk => hk.2) (.int .i64 ((rd_T49 l0_2 x18_1).f0))) (fun _ hk => hk.2) (.int .i64 ((rd_T49 l0_2 x18_1).f1))) (fun _ h_ => h_.1))) hb); replace BK186 := Aside0.mk (blk_below (g := gb186) (o := .cells #[.int .i64 a0_0, .slice A0_1 l0_1.length c0_1, .slice (some ad190) l0_2.length c0_2] 54 (0, 0)) (by (with_reducible repeat (first | refine blk_drewN ?_ _ | refine blk_drew ?_ | refine blk_alloc ?_ _)); refine blk_far ?_ NB186_191.out _; (with_reducible repeat (first | refine blk_drewN ?_ _ | refine blk_drew ?_ | refine blk_alloc ?_ _)); refine blk_far ?_ NB186_191.out _; (with_reducible repeat (first | refine blk_drewN ?_ _ | refine blk_drew ?_ | refine blk_alloc ?_ _)); exact BK186.out) hb); replace BK191 := Aside0.mk (blk_below (g := gb191) (o := .cells #[.int .i64 ((rd_T49 l0_2 x18_1).f0), .int .i64 ((rd_T49 l0_2 x18_1).f1)] 49 (0, 0)) (by (with_reducible repeat (first | refine blk_drewN ?_ _ | refine blk_drew ?_ | refine blk_alloc ?_ _)); refine blk_put (cs := #[.int .i64 ((rd_T49 l0_2 x18_1).f0), .int .i64 0]) ?_ 1 _ rfl; (with_reducible repeat (first | refine blk_drewN ?_ _ | refine blk_drew ?_ | refine blk_alloc ?_ _)); refine blk_put (cs := #[.int .i64 0, .int .i64 0]) ?_ 0 _ rfl; (with_reducible repeat (first | refine blk_drewN ?_ _ | refine blk_drew ?_ | refine blk_alloc ?_ _)); exact BK191.out) hb); replace HB := Aside0.mk (below_step bel hb); (try clear hb); (try clear hb2); (try clear hk); (try clear hi); obtain ⟨Ao19, co19, eo19⟩ := Kd.R_slice HO_5.out; subst eo19))
        go_loopg [29] k1 (fun kq v29 w' => ∃ (x5_2 : List Int) (x29_2 : Int), v29 = .int .i64 x29_2 ∧ Aside0 (feed_grid_fed.l1 kq a1 x5_2 t192 l0_2 (l0_2.length : Int) x18_1 (x5_1.length : Int) x29_2 a0_0 l0_1 l0_2 ((rd_T49 l0_2 x18_1).f0) ((rd_T49 l0_2 x18_1).f1) = some r) ∧ Aside0 (kq ≤ k1) ∧ Aside0 (Kd.R (Kd.int .u64) 80 w' w.heap.size (fun _ => True) (.slice Ao19 x5_1.length co19) x5_2) ∧ Aside0 (w'.heap[gb186]? = some (.cells #[.int .i64 a0_0, (.slice A0_1 l0_1.length c0_1), (.slice (some ad190) l0_2.length c0_2)] 54 (0, 0))) ∧ Aside0 (w'.heap[gb191]? = some (.cells #[.int .i64 ((rd_T49 l0_2 x18_1).f0), .int .i64 ((rd_T49 l0_2 x18_1).f1)] 49 (0, 0))) ∧ Aside0 (Below w.heap.size w w'))
        case atStart => exact ⟨(x5_1), (0), rsz, H', ⟨Nat.le_refl _⟩, ⟨by (with_reducible repeat (first | apply Kd.R_alloc | apply Kd.R_drewN | apply Kd.R_drew)); exact HO_5.out⟩, ⟨blkz⟩, ⟨blkz⟩, ⟨bel⟩⟩
        case round =>
         clear H'
         (try clear c1); (try clear p1); (try clear q1); (try clear hx1); (try clear p2); (try clear c3); (try clear c3b0); (try clear c3b1); (try clear c4); (try clear c4b0); (try clear c4b1); (try clear c5); (try clear c7); (try clear c10); (try clear c10b0); (try clear c11); (try clear c11b0); (try clear c12); (try clear c12b0); (try clear c15); (try clear p19); (try clear q19); (try clear hx19); (try clear hcz16_0); (try clear hcz16_1); (try clear hcz17_0); (try clear hcz17_1); (try clear hcz17_2); (try clear hcz6_0); (try clear hcz6_1); (try clear hcz6_2); (try clear hcz9_0); (try clear hcz9_1); (try clear hcz9_2); (try clear hfz16_0); (try clear hfz16_1); (try clear hfz17_0); (try clear hfz17_1); (try clear hfz17_2); (try clear hfz6_0); (try clear hfz6_1); (try clear hfz6_2); (try clear hfz9_0); (try clear hfz9_1); (try clear hfz9_2); (try clear hx190_0); (try clear hx190_1); (try clear p190); (try clear p2); (try clear q190)
         obtain ⟨x5_2, x29_2, rfl, HA, HK2, HO_5, BK186, BK191, HB⟩ := hrel
         have hl5_2 := (Kd.R_reads' HO_5.out).1
         rw [hl5_2] at HO_5
         (try simp only [hl5_2])
         (try simp only [hl5_2] at BK186)
         (try simp only [hl5_2] at BK191)
         cases gk with
         | zero => exact absurd HA.out (by simp [feed_grid_fed.l1])
         | succ k2 =>
          have H := HA.out
          clear HA
          simp only [feed_grid_fed.l1] at H
          by_cases c20 : x29_2 < (x5_1.length : Int)
          ·
           rw [if_pos c20] at H
           have c20b0 : decide (x29_2 < (x5_1.length : Int)) = true := decide_eq_true c20
           try (have c20b0hl5_2 := c20b0; simp only [hl5_2] at c20b0hl5_2)
           clear c20
           by_cases c21 : 0 ≤ x29_2
           ·
            rw [if_pos c21] at H
            have c21b0 := eq_true c21
            have c21b1 : decide (0 ≤ x29_2) = true := decide_eq_true c21
            clear c21
            obtain ⟨ji22, hji22⟩ : ∃ j_ : Int, (shr .u64 t192 x29_2) = j_ := ⟨_, rfl⟩
            replace H : (if (Go.bits .and .u64 (ji22) 1) = 1 then (if x29_2 < (x5_2.length : Int) then (if 0 ≤ ((rd_T49 l0_2 x18_1).f1) then (feed_grid_fed.l1 k2 a1 (x5_2.set (x29_2 : Int).toNat (Go.bits .or .u64 (rd x5_2 x29_2) (shl .u64 1 ((rd_T49 l0_2 x18_1).f1)))) t192 l0_2 (l0_2.length : Int) x18_1 (x5_1.length : Int) (wrap64 (x29_2 + 1)) a0_0 l0_1 l0_2 ((rd_T49 l0_2 x18_1).f0) ((rd_T49 l0_2 x18_1).f1)) else (none)) else (none)) else (feed_grid_fed.l1 k2 a1 x5_2 t192 l0_2 (l0_2.length : Int) x18_1 (x5_1.length : Int) (wrap64 (x29_2 + 1)) a0_0 l0_1 l0_2 ((rd_T49 l0_2 x18_1).f0) ((rd_T49 l0_2 x18_1).f1))) = some r := by first | (rw [hji22] at H; exact H) | (simp only [hji22] at H ⊢; exact H)
            have hji22_ : (t192 / 2 ^ min x29_2.toNat 64) = ji22 := hji22
            have hji22z : x29_2 ≤ 64 → (t192 / 2 ^ x29_2.toNat) = ji22 := shr_small hji22
            by_cases c23 : (Go.bits .and .u64 (ji22) 1) = 1
            ·
             rw [if_pos c23] at H
             have c23b0 : ((Go.bits .and .u64 (ji22) 1) == 1) = true := beq_iff_eq.mpr c23
             have c23b1 : ((Go.bits .and .u64 (ji22) 1) != 1) = false := bne_eq_false_iff_eq.mpr c23
             clear c23
             by_cases c24 : x29_2 < (x5_2.length : Int)
             ·
              rw [if_pos c24] at H
              have c24b0 : decide (x29_2 < (x5_2.length : Int)) = true := decide_eq_true c24
              try (have c24b0hl5_2 := c24b0; simp only [hl5_2] at c24b0hl5_2)
              clear c24
              by_cases c25 : 0 ≤ ((rd_T49 l0_2 x18_1).f1)
              ·
               rw [if_pos c25] at H
               have c25b0 := eq_true c25
               have c25b1 : decide (0 ≤ ((rd_T49 l0_2 x18_1).f1)) = true := decide_eq_true c25
               clear c25
               obtain ⟨ji26, hji26⟩ : ∃ j_ : Int, (shl .u64 1 ((rd_T49 l0_2 x18_1).f1)) = j_ := ⟨_, rfl⟩
               replace H : (feed_grid_fed.l1 k2 a1 (x5_2.set (x29_2 : Int).toNat (Go.bits .or .u64 (rd x5_2 x29_2) (ji26))) t192 l0_2 (l0_2.length : Int) x18_1 (x5_1.length : Int) (wrap64 (x29_2 + 1)) a0_0 l0_1 l0_2 ((rd_T49 l0_2 x18_1).f0) ((rd_T49 l0_2 x18_1).f1)) = some r := by first | (rw [hji26] at H; exact H) | (simp only [hji26] at H ⊢; exact H)
               have hji26_ : (IntKind.u64.wrap (1 * 2 ^ min ((rd_T49 l0_2 x18_1).f1).toNat 64)) = ji26 := hji26
               have hji26z : ((rd_T49 l0_2 x18_1).f1) ≤ 64 → (IntKind.u64.wrap (1 * 2 ^ ((rd_T49 l0_2 x18_1).f1).toNat)) = ji26 := shl_small hji26
               have hji26u : (IntKind.u64.wrap (2 ^ min ((rd_T49 l0_2 x18_1).f1).toNat 64)) = ji26 := by have h_ := hji26_; rw [Int.one_mul] at h_; exact h_
               have hji26v : ((rd_T49 l0_2 x18_1).f1) ≤ 64 → (IntKind.u64.wrap (2 ^ ((rd_T49 l0_2 x18_1).f1).toNat)) = ji26 := fun hle_ => by have h_ := hji26z hle_; rw [Int.one_mul] at h_; exact h_
               obtain ⟨y194, hy194⟩ : ∃ y_ : List Int, y_ = (x5_2.set (x29_2 : Int).toNat (Go.bits .or .u64 (rd x5_2 x29_2) (ji26))) := ⟨_, rfl⟩
               replace H : (feed_grid_fed.l1 k2 a1 y194 t192 l0_2 (l0_2.length : Int) x18_1 (x5_1.length : Int) (wrap64 (x29_2 + 1)) a0_0 l0_1 l0_2 ((rd_T49 l0_2 x18_1).f0) ((rd_T49 l0_2 x18_1).f1)) = some r := by first | (rw [hy194]; with_reducible exact H) | (have H2_ := (Option.bind_some _ _).symm.trans H; rw [hy194]; with_reducible exact H2_) | (have H2_ := (Option.bind_some _ _).symm.trans H; with_reducible exact H2_) | with_reducible exact H | (rw [hy194]; exact H) | exact H
               have Ny194 := Aside0.mk hy194
               clear hy194
               have H' := Aside0.mk H
               clear H
               try go_wp2
               have n0_ := Aside0.mk (Kd.R_drew HO_5.out)
               have n1_ := Aside0.mk (blk_drew BK186.out)
               have n2_ := Aside0.mk (blk_drew BK191.out)
               have n3_ := Aside0.mk (below_drew1 HB.out)
               clear HO_5
               clear BK186
               clear BK191
               clear HB
               have HO_5 := n0_
               have BK186 := n1_
               have BK191 := n2_
               have HB := n3_
               clear n0_ n1_ n2_ n3_
               have p193 : 0 ≤ (x29_2 : Int) := of_decide_eq_true asz
               have q193 : x29_2 < (x5_2.length : Int) := of_decide_eq_true asz
               obtain ⟨ad193, e193, hx193_0⟩ := Kd.at_int (Kd.R_reads' HO_5.out).2.2 x29_2 p193 q193
               cases e193
               replace p193 := eq_true p193
               replace q193 := eq_true q193
               have p27 : 0 ≤ (x29_2 : Int) := of_decide_eq_true asz
               have q27 : (x29_2 : Int) < ((x5_2.length : Int) : Int) := of_decide_eq_true asz
               obtain ⟨go27, co27, eo27, gb27, gl27, cl27, HG27⟩ := Kd.R_form HO_5.out (by omega)
               (first | cases eo27 | (injection eo27 with ea_ en_ ec_; (first | subst ea_ | (injection ea_ with ea_; subst ea_)); subst ec_; clear en_))
               have GB27 := Aside0.mk gb27
               have GG27 := Aside0.mk HG27
               clear gb27 gl27 HG27
               (first | simp only [add_plain] at hx193_0 | skip)
               obtain ⟨hx27_0, hf27_0⟩ := Kd.R_celln 0 HO_5.out (x29_2 : Int) p27 q27
               replace p27 := eq_true p27
               replace q27 := eq_true q27
               have HP29 := Kd.R_putn HO_5.out (x29_2 : Int) (Go.bits .or .u64 (rd x5_2 x29_2) (ji26))
               rw [← Ny194.out] at HP29
               have HQ29 := Aside0.mk HP29
               clear HP29
               refine start_ (n := 10) (S := fun w' => w'.cell? ⟨gb191, 0, none⟩ = some (.int .i64 ((rd_T49 l0_2 x18_1).f0)) ∧ w'.cell? ⟨gb191, 1, none⟩ = some (.int .i64 ((rd_T49 l0_2 x18_1).f1)) ∧ w'.cell? ⟨go27, (x29_2).toNat, none⟩ = some (.int .u64 (rd x5_2 x29_2))) (ds := [9]) #[false, false, false, false, false, false, false, false, false, false] (by kernel_rfl) rfl rfl ⟨(blk_cell BK191.out 0).trans rfl, (blk_cell BK191.out 1).trans rfl, hx193_0⟩ (fun hHeld => ?_); refine with_tabW feed_grid_fed.tab10 feed_grid_fed.bits10 (fun HT_ HW_ => ?_)
               generalize wr.drew = w28 at HO_5 BK186 BK191 HB GG27 HQ29 hf27_0 hx193_0 hx27_0 hHeld ⊢
               refine pst (i := 0) (N := some 37) (bz 10 1) (any_of HT_.out (by kernel_rfl)) ?_
               refine pst (i := 1) (N := some 38) (bz 10 3) (any_of HT_.out (by kernel_rfl)) ?_
               refine pst (i := 2) (N := some 39) (bz 10 7) (any_of HT_.out (by kernel_rfl)) ?_
               refine pst (i := 4) (N := some 41) (bz 10 23) (any_of HT_.out (by kernel_rfl)) ?_
               refine tst3 (i := 3) (N := some 40) (bz 10 31) (take_ofW HT_.out HW_.out (by kernel_rfl)) hHeld ?_
               refine tst3 (i := 5) (N := some 42) (bz 10 63) (take_ofW HT_.out HW_.out (by kernel_rfl)) hHeld ?_
               refine pst (i := 6) (N := some 43) (bz 10 127) (any_of HT_.out (by kernel_rfl)) ?_
               refine pst (i := 7) (N := some 44) (bz 10 255) (any_of HT_.out (by kernel_rfl)) ?_
               refine pst (i := 8) (N := some 45) (bz 10 511) (any_of HT_.out (by kernel_rfl)) ?_
               refine last_ (i := 9) (N := none) #[true, true, true, true, true, true, true, true, true, true] rfl rfl (one_of HT_.out (by kernel_rfl)) (by decide) (fun K hK => ?_)
               refine skip_ (w1 := ?_) (by rfl) rfl ?_ ?_
               rotate_left
               ·
                go_simp
                rfl
               refine hK.out _ _ ?_
               clear hK K
               refine done_ (done_of HT_.out (by kernel_rfl)) ?_
               try go_wp2
               (try simp only [← hl5_2])
               go_roundg k2
               case measure => have := HK1.out; have := HK2.out; omega
               case rel => exact ⟨(y194), (wrap64 (x29_2 + 1)), rsz, H', ⟨by have := HK1.out; have := HK2.out; omega⟩, ⟨by (try simp only [hl5_2]); (with_reducible repeat (first | apply Kd.R_alloc | apply Kd.R_drewN | apply Kd.R_drew)); exact HQ29.out⟩, ⟨by (try simp only [hl5_2]); (with_reducible repeat (first | refine blk_drewN ?_ _ | refine blk_drew ?_ | refine blk_alloc ?_ _)); refine blk_far ?_ (by have h_ := Kd.R_ne HO_5.out BK186.out (by decide); intro e_; exact h_ (by rw [e_]; rfl)) _; (with_reducible repeat (first | refine blk_drewN ?_ _ | refine blk_drew ?_ | refine blk_alloc ?_ _)); exact BK186.out⟩, ⟨by (try simp only [hl5_2]); (with_reducible repeat (first | refine blk_drewN ?_ _ | refine blk_drew ?_ | refine blk_alloc ?_ _)); refine blk_far ?_ (by have h_ := Kd.R_ne HO_5.out BK191.out (by decide); intro e_; exact h_ (by rw [e_]; rfl)) _; (with_reducible repeat (first | refine blk_drewN ?_ _ | refine blk_drew ?_ | refine blk_alloc ?_ _)); exact BK191.out⟩, ⟨by repeat (first | (with_reducible first | exact HB.out | apply below_alloc | apply pw_below_drewN | apply below_drew1 | refine below_set ?_ GB27.out | refine below_set ?_ GE186.out | refine below_set ?_ GE191.out) | exact HB.out)⟩⟩
              ·
               rw [if_neg c25] at H
               exact absurd H (by simp)
             ·
              rw [if_neg c24] at H
              exact absurd H (by simp)
            ·
             rw [if_neg c23] at H
             have c23b0 : ((Go.bits .and .u64 (ji22) 1) == 1) = false := beq_eq_false_iff_ne.mpr c23
             have c23b1 : ((Go.bits .and .u64 (ji22) 1) != 1) = true := bne_iff_ne.mpr c23
             have H' := Aside0.mk H
             clear H
             go_wp2
             (try simp only [← hl5_2])
             go_roundg k2
             case measure => have := HK1.out; have := HK2.out; omega
             case rel => exact ⟨(x5_2), (wrap64 (x29_2 + 1)), rsz, H', ⟨by have := HK1.out; have := HK2.out; omega⟩, ⟨by (try simp only [hl5_2]); (with_reducible repeat (first | apply Kd.R_alloc | apply Kd.R_drewN | apply Kd.R_drew)); exact HO_5.out⟩, ⟨by (try simp only [hl5_2]); (with_reducible repeat (first | refine blk_drewN ?_ _ | refine blk_drew ?_ | refine blk_alloc ?_ _)); exact BK186.out⟩, ⟨by (try simp only [hl5_2]); (with_reducible repeat (first | refine blk_drewN ?_ _ | refine blk_drew ?_ | refine blk_alloc ?_ _)); exact BK191.out⟩, ⟨bel⟩⟩
           ·
            rw [if_neg c21] at H
            exact absurd H (by simp)
          ·
           rw [if_neg c20] at H
           have c20b0 : decide (x29_2 < (x5_1.length : Int)) = false := decide_eq_false c20
           try (have c20b0hl5_2 := c20b0; simp only [hl5_2] at c20b0hl5_2)
           clear c20
           have H' := Aside0.mk H
           clear H
           go_wp2
           (try simp only [← hl5_2])
           go_roundg k2
           case measure => have := HK1.out; have := HK2.out; omega
           case rel => exact ⟨(x5_2), (wrap64 (x18_1 + 1)), rsz, H', ⟨by have := HK1.out; have := HK2.out; omega⟩, ⟨by (try simp only [hl5_2]); (with_reducible repeat (first | apply Kd.R_alloc | apply Kd.R_drewN | apply Kd.R_drew)); exact HO_5.out⟩, ⟨by (try simp only [hl5_2]); (with_reducible repeat (first | refine blk_drewN ?_ _ | refine blk_drew ?_ | refine blk_alloc ?_ _)); exact BK186.out⟩, ⟨bel⟩⟩
       ·
        rw [if_neg c12] at H
        exact absurd H (by simp)
      ·
       rw [if_neg c11] at H
       exact absurd H (by simp)
     ·
      rw [if_neg c10] at H
      have c10b0 : decide (x18_1 < (l0_2.length : Int)) = false := decide_eq_false c10
      clear c10
      obtain rfl := Option.some.inj H
      go_wp2
      go_ret
      exact ⟨_, ezz, by (with_reducible repeat (first | apply Kd.R_alloc | apply Kd.R_drewN | apply Kd.R_drew)); exact HO_5.out, bel⟩
  ·
   rw [if_neg c4] at H
   exact absurd H (by simp)
 ·
  rw [if_neg c3] at H
  exact absurd H (by simp)

/-! ### feed_grid_dead: function 62 -/
def feed_grid_dead.f (k : Nat) (a0_0 : Int) (l0_1 : List (S47)) (l0_2 : List (S49)) (a1 : Int) (a2 : Int) : Option (Bool) := (feed_grid_fed.f k a0_0 l0_1 l0_2 a1).bind fun t196 => (if 0 ≤ a2 then (if a2 < (t196.length : Int) then (some ((rd t196 a2) == 0)) else (none)) else (none))
theorem feed_grid_dead.mono : ∀ a0 a1 a2 a3 a4 k, LeO (feed_grid_dead.f k a0 a1 a2 a3 a4) (feed_grid_dead.f (k + 1) a0 a1 a2 a3 a4) := by
 intro a0 a1 a2 a3 a4 k
 unfold feed_grid_dead.f
 repeat' first
   | (with_reducible exact feed_grid_fed.mono _ _ _ _ _)
   | (with_reducible exact LeO.refl _)
   | (with_reducible exact LeO.none _)
   | (with_reducible refine LeO.ite ?_ ?_)
   | (with_reducible refine LeO.bind ?_ (fun _ => ?_))
   | exact feed_grid_fed.mono _ _ _ _ _
   | exact LeO.none _
   | refine LeO.ite ?_ ?_
   | refine LeO.bind ?_ (fun _ => ?_)
set_option maxHeartbeats 8000000 in
set_option maxRecDepth 100000 in
theorem feed_grid_dead.calls (k : Nat) (a0_0 : Int) (A0_1 : Option Addr) (c0_1 : Nat) (l0_1 : List (S47)) (A0_2 : Option Addr) (c0_2 : Nat) (l0_2 : List (S49)) (a1 : Int) (a2 : Int) (r : Bool) (w : World) (hr0_1 : Kd.C k47 w A0_1 l0_1.length l0_1) (hc0_1 : l0_1.length ≤ c0_1) (hr0_2 : Kd.C k49 w A0_2 l0_2.length l0_2) (hc0_2 : l0_2.length ≤ c0_2) (h : feed_grid_dead.f k a0_0 l0_1 l0_2 a1 a2 = some r) :
  Calls Tryd.prog 62 #[.agg #[.int .i64 a0_0, .slice A0_1 l0_1.length c0_1, .slice A0_2 l0_2.length c0_2], .int .i64 a1, .int .i64 a2] w fun e w' => e = .returned (.bool r) ∧ Below w.heap.size w w' := by
 have hu54 := Tryd.underlying54
 have HR0_1 := Aside0.mk hr0_1
 have HC0_1 := Aside0.mk hc0_1
 clear hr0_1 hc0_1
 have HR0_2 := Aside0.mk hr0_2
 have HC0_2 := Aside0.mk hc0_2
 clear hr0_2 hc0_2
 have HB := Aside0.mk (Below.refl w.heap.size w)
 have H : ((feed_grid_fed.f k a0_0 l0_1 l0_2 a1).bind fun t196 => (if 0 ≤ a2 then (if a2 < (t196.length : Int) then (some ((rd t196 a2) == 0)) else (none)) else (none))) = some r := h
 clear h
 replace H := Option.bind_eq_some_iff.mp H
 obtain ⟨t196, A40, H⟩ := H
 try dsimp only at H
 have A4 := Aside0.mk A40
 clear A40
 by_cases c5 : 0 ≤ a2
 ·
  rw [if_pos c5] at H
  have c5b0 : decide (0 ≤ a2) = true := decide_eq_true c5
  clear c5
  by_cases c6 : a2 < (t196.length : Int)
  ·
   rw [if_pos c6] at H
   have c6b0 : decide (a2 < (t196.length : Int)) = true := decide_eq_true c6
   clear c6
   obtain rfl := Option.some.inj H
   go_enter Tryd.func62, Tryd.ntmps62
   go_wp2_with (first | ((with_reducible refine gate_dst (N := 3) rfl ?_); refine box_event ?hg (N := 3) ?hd (cs := #[.int .i64 a0_0, .slice A0_1 l0_1.length c0_1, .slice A0_2 l0_2.length c0_2]) (t := 54) ?hr ?_; (case hd => rfl); (case hg => rfl); (case hr => first | (go_simp; done) | (go_simp; rfl)); intro gb195 hg w7 hbox hb; have BK195 := Aside0.mk (hbox); have GW195 := bsz (w := w) hg; have GE195 := GW195; replace HB := Aside0.mk (below_step bel hb); clear hb hbox hg; obtain ⟨hcz8_0, hcz8_1, hcz8_2⟩ := bc3 BK195.out) | ((with_reducible refine gate_callee (f := 53) rfl ?_); refine goesL_ (some 9) rfl rfl Tryd.func53 (by kernel_rfl) rfl #[.agg #[.int .i64 a0_0, .slice A0_1 l0_1.length c0_1, .slice A0_2 l0_2.length c0_2], .int .i64 a1] rfl mapz ?_; (with_reducible refine (feed_grid_fed.calls k a0_0 _ _ l0_1 _ _ l0_2 a1 t196 _ (cbz HR0_1) HC0_1.out (cbz HR0_2) HC0_2.out A4.out).mono ?_); rintro e w9 ⟨v197, rfl, ho0, hb⟩; refine ⟨_, rfl, ?_⟩; have HO198 := Aside0.mk (Kd.R_lower ho0 (below_size bel)); replace BK195 := Aside0.mk (blk_below (g := gb195) blkz hb); replace HB := Aside0.mk (below_step bel hb); (try clear hb); (try clear hb2); (try clear hk); (try clear hi); (try clear ho0); obtain ⟨Ao10, co10, eo10⟩ := Kd.R_slice HO198.out; subst eo10; have p199 : 0 ≤ (a2 : Int) := of_decide_eq_true asz; have q199 : a2 < (t196.length : Int) := of_decide_eq_true asz; obtain ⟨ad199, e199, hx199_0⟩ := Kd.at_int (Kd.R_reads' HO198.out).2.2 a2 p199 q199; cases e199; replace p199 := eq_true p199; replace q199 := eq_true q199))
   go_ret
   exact ⟨ezz, bel⟩
  ·
   rw [if_neg c6] at H
   exact absurd H (by simp)
 ·
  rw [if_neg c5] at H
  exact absurd H (by simp)

/-! ### feed_grid_least: function 43 -/
def feed_grid_least.l0 : Nat → Int → Int → Int → Int → Int → Int → List (S47) → List (S49) → Option (Int)
 | 0, _, _, _, _, _, _, _, _ => none
 | k + 1, x1, x2, x7, x11, x12, x201000, x201001, x201002 => if x12 < x11 then (if (Go.bits .andNot .i64 x12 x1) = 0 then ((bits_OnesCount.f (IntKind.u64.wrap (x12))).bind fun t202 => ((bits_OnesCount.f (IntKind.u64.wrap (x7))).bind fun t203 => (if t202 < t203 then ((feed_grid_dead.f k x201000 x201001 x201002 (Go.bits .andNot .i64 x1 x12) x2).bind fun t204 => (if t204 = true then (feed_grid_least.l0 k x1 x2 x12 x11 (wrap64 (x12 + 1)) x201000 x201001 x201002) else (feed_grid_least.l0 k x1 x2 x7 x11 (wrap64 (x12 + 1)) x201000 x201001 x201002))) else (feed_grid_least.l0 k x1 x2 x7 x11 (wrap64 (x12 + 1)) x201000 x201001 x201002)))) else (feed_grid_least.l0 k x1 x2 x7 x11 (wrap64 (x12 + 1)) x201000 x201001 x201002)) else (some x7)
def feed_grid_least.f (k : Nat) (a0_0 : Int) (l0_1 : List (S47)) (l0_2 : List (S49)) (a1 : Int) (a2 : Int) : Option (Int) := (feed_grid_all.f a0_0 l0_1 l0_2).bind fun t201 => (feed_grid_least.l0 k a1 a2 a1 t201 0 a0_0 l0_1 l0_2)
theorem feed_grid_least.mono_l : ∀ k, (∀ y0 y1 y2 y3 y4 y5 y6 y7, LeO (feed_grid_least.l0 k y0 y1 y2 y3 y4 y5 y6 y7) (feed_grid_least.l0 (k + 1) y0 y1 y2 y3 y4 y5 y6 y7))
 | 0 => fun _ _ _ _ _ _ _ _ r h => by simp [feed_grid_least.l0] at h
 | k + 1 => by
  have ih0 := feed_grid_least.mono_l k
  ·
   intro y0 y1 y2 y3 y4 y5 y6 y7
   unfold feed_grid_least.l0
   repeat' first
   | (with_reducible exact ih0 _ _ _ _ _ _ _ _)
   | (with_reducible exact feed_grid_dead.mono _ _ _ _ _ _)
   | (with_reducible exact LeO.refl _)
   | (with_reducible exact LeO.none _)
   | (with_reducible refine LeO.ite ?_ ?_)
   | (with_reducible refine LeO.bind ?_ (fun _ => ?_))
   | exact ih0 _ _ _ _ _ _ _ _
   | exact feed_grid_dead.mono _ _ _ _ _ _
   | exact LeO.none _
   | refine LeO.ite ?_ ?_
   | refine LeO.bind ?_ (fun _ => ?_)
theorem feed_grid_least.mono : ∀ a0 a1 a2 a3 a4 k, LeO (feed_grid_least.f k a0 a1 a2 a3 a4) (feed_grid_least.f (k + 1) a0 a1 a2 a3 a4) := by
 intro a0 a1 a2 a3 a4 k
 have ih0 := feed_grid_least.mono_l k
 unfold feed_grid_least.f
 repeat' first
   | (with_reducible exact ih0 _ _ _ _ _ _ _ _)
   | (with_reducible exact feed_grid_dead.mono _ _ _ _ _ _)
   | (with_reducible exact LeO.refl _)
   | (with_reducible exact LeO.none _)
   | (with_reducible refine LeO.ite ?_ ?_)
   | (with_reducible refine LeO.bind ?_ (fun _ => ?_))
   | exact ih0 _ _ _ _ _ _ _ _
   | exact feed_grid_dead.mono _ _ _ _ _ _
   | exact LeO.none _
   | refine LeO.ite ?_ ?_
   | refine LeO.bind ?_ (fun _ => ?_)
set_option maxHeartbeats 8000000 in
set_option maxRecDepth 100000 in
theorem feed_grid_least.calls (k : Nat) (a0_0 : Int) (A0_1 : Option Addr) (c0_1 : Nat) (l0_1 : List (S47)) (A0_2 : Option Addr) (c0_2 : Nat) (l0_2 : List (S49)) (a1 : Int) (a2 : Int) (r : Int) (w : World) (hr0_1 : Kd.C k47 w A0_1 l0_1.length l0_1) (hc0_1 : l0_1.length ≤ c0_1) (hr0_2 : Kd.C k49 w A0_2 l0_2.length l0_2) (hc0_2 : l0_2.length ≤ c0_2) (h : feed_grid_least.f k a0_0 l0_1 l0_2 a1 a2 = some r) :
  Calls Tryd.prog 43 #[.agg #[.int .i64 a0_0, .slice A0_1 l0_1.length c0_1, .slice A0_2 l0_2.length c0_2], .int .i64 a1, .int .i64 a2] w fun e w' => e = .returned (.int .i64 r) ∧ Below w.heap.size w w' := by
 have hu54 := Tryd.underlying54
 have HR0_1 := Aside0.mk hr0_1
 have HC0_1 := Aside0.mk hc0_1
 clear hr0_1 hc0_1
 have HR0_2 := Aside0.mk hr0_2
 have HC0_2 := Aside0.mk hc0_2
 clear hr0_2 hc0_2
 have HB := Aside0.mk (Below.refl w.heap.size w)
 have H : ((feed_grid_all.f a0_0 l0_1 l0_2).bind fun t201 => (feed_grid_least.l0 k a1 a2 a1 t201 0 a0_0 l0_1 l0_2)) = some r := h
 clear h
 replace H := Option.bind_eq_some_iff.mp H
 obtain ⟨t201, A40, H⟩ := H
 try dsimp only at H
 have A4 := Aside0.mk A40
 clear A40
 have H' := Aside0.mk H
 clear H
 go_enter Tryd.func43, Tryd.ntmps43
 go_wp2_with (first | ((with_reducible refine gate_dst (N := 3) rfl ?_); refine box_event ?hg (N := 3) ?hd (cs := #[.int .i64 a0_0, .slice A0_1 l0_1.length c0_1, .slice A0_2 l0_2.length c0_2]) (t := 54) ?hr ?_; (case hd => rfl); (case hg => rfl); (case hr => first | (go_simp; done) | (go_simp; rfl)); intro gb200 hg w5 hbox hb; have BK200 := Aside0.mk (hbox); have GW200 := bsz (w := w) hg; have GE200 := GW200; replace HB := Aside0.mk (below_step bel hb); clear hb hbox hg; obtain ⟨hcz6_0, hcz6_1, hcz6_2⟩ := bc3 BK200.out) | ((with_reducible refine gate_callee (f := 26) rfl ?_); refine goesL_ (some 11) rfl rfl Tryd.func26 (by kernel_rfl) rfl #[.agg #[.int .i64 a0_0, .slice A0_1 l0_1.length c0_1, .slice A0_2 l0_2.length c0_2]] rfl mapz ?_; (with_reducible refine (feed_grid_all.calls a0_0 _ _ l0_1 _ _ l0_2 t201 _ (cbz HR0_1) HC0_1.out (cbz HR0_2) HC0_2.out A4.out).mono ?_); rintro e w7 ⟨rfl, hb⟩; refine ⟨_, rfl, ?_⟩; replace BK200 := Aside0.mk (blk_below (g := gb200) blkz hb); replace HB := Aside0.mk (below_step bel hb); clear hb))
 go_loopg [7, 12] k (fun kq v7 v12 w' => ∃ (x7_1 : Int) (x12_1 : Int), v7 = .int .i64 x7_1 ∧ v12 = .int .i64 x12_1 ∧ Aside0 (feed_grid_least.l0 kq a1 a2 x7_1 t201 x12_1 a0_0 l0_1 l0_2 = some r) ∧ Aside0 (kq ≤ k) ∧ Aside0 (w'.heap[gb200]? = some (.cells #[.int .i64 a0_0, (.slice A0_1 l0_1.length c0_1), (.slice A0_2 l0_2.length c0_2)] 54 (0, 0))) ∧ Aside0 (Below w.heap.size w w'))
 case atStart => exact ⟨(a1), (0), rsz, rsz, H', ⟨Nat.le_refl _⟩, ⟨blkz⟩, ⟨bel⟩⟩
 case round =>
  clear H'
  (try clear c2); (try clear p2); (try clear c4); (try clear hcz6_0); (try clear hcz6_1); (try clear hcz6_2); (try clear hfz6_0); (try clear hfz6_1); (try clear hfz6_2)
  obtain ⟨x7_1, x12_1, rfl, rfl, HA, HK1, BK200, HB⟩ := hrel
  cases gk with
  | zero => exact absurd HA.out (by simp [feed_grid_least.l0])
  | succ k1 =>
   have H := HA.out
   clear HA
   simp only [feed_grid_least.l0] at H
   by_cases c8 : x12_1 < t201
   ·
    rw [if_pos c8] at H
    have c8b0 : decide (x12_1 < t201) = true := decide_eq_true c8
    clear c8
    by_cases c9 : (Go.bits .andNot .i64 x12_1 a1) = 0
    ·
     rw [if_pos c9] at H
     have c9b0 : ((Go.bits .andNot .i64 x12_1 a1) == 0) = true := beq_iff_eq.mpr c9
     have c9b1 : ((Go.bits .andNot .i64 x12_1 a1) != 0) = false := bne_eq_false_iff_eq.mpr c9
     clear c9
     replace H := Option.bind_eq_some_iff.mp H
     obtain ⟨t202, A100, H⟩ := H
     try dsimp only at H
     have A10 := Aside0.mk A100
     clear A100
     replace H := Option.bind_eq_some_iff.mp H
     obtain ⟨t203, A110, H⟩ := H
     try dsimp only at H
     have A11 := Aside0.mk A110
     clear A110
     by_cases c12 : t202 < t203
     ·
      rw [if_pos c12] at H
      have c12b0 : decide (t202 < t203) = true := decide_eq_true c12
      clear c12
      replace H := Option.bind_eq_some_iff.mp H
      obtain ⟨t204, A130, H⟩ := H
      try dsimp only at H
      have A13 := Aside0.mk A130
      clear A130
      by_cases c14 : t204 = true
      ·
       subst c14
       rw [if_pos rfl] at H
       have H' := Aside0.mk H
       clear H
       go_wp2_with (first | (go_at_call 61; (with_reducible refine (bits_OnesCount.calls (IntKind.u64.wrap (x12_1)) t202 _ A10.out).mono ?_); rintro e w' ⟨rfl, ⟨nd, rfl⟩⟩) | (go_at_call 61; (with_reducible refine (bits_OnesCount.calls (IntKind.u64.wrap (x7_1)) t203 _ A11.out).mono ?_); rintro e w' ⟨rfl, ⟨nd, rfl⟩⟩; obtain ⟨hcz15_0, hcz15_1, hcz15_2⟩ := bc3 BK200.out) | (go_at_call 62; (with_reducible refine (feed_grid_dead.calls k1 a0_0 _ _ l0_1 _ _ l0_2 (Go.bits .andNot .i64 a1 x12_1) a2 true _ ?side1 HC0_1.out ?side3 HC0_2.out A13.out).mono ?_); (case side1 => repeat (first | exact (Kd.C_below HR0_1.out bel) | (with_reducible refine Kd.C_alloc ?_ _) | (with_reducible refine Kd.C_drewN ?_ _) | (with_reducible refine Kd.C_drew ?_))); (case side3 => repeat (first | exact (Kd.C_below HR0_2.out bel) | (with_reducible refine Kd.C_alloc ?_ _) | (with_reducible refine Kd.C_drewN ?_ _) | (with_reducible refine Kd.C_drew ?_))); rintro e w16 ⟨rfl, hb⟩; replace BK200 := Aside0.mk (blk_below (g := gb200) blkz hb); replace HB := Aside0.mk (below_step bel hb); clear hb))
       go_roundg k1
       case measure => have := HK1.out; omega
       case rel => exact ⟨(x12_1), (wrap64 (x12_1 + 1)), rsz, rsz, H', ⟨by have := HK1.out; omega⟩, ⟨blkz⟩, ⟨bel⟩⟩
      ·
       replace c14 := Bool.eq_false_iff.mpr c14
       subst c14
       rw [if_neg (show ¬ (false = true) by decide)] at H
       have H' := Aside0.mk H
       clear H
       go_wp2_with (first | (go_at_call 61; (with_reducible refine (bits_OnesCount.calls (IntKind.u64.wrap (x12_1)) t202 _ A10.out).mono ?_); rintro e w' ⟨rfl, ⟨nd, rfl⟩⟩) | (go_at_call 61; (with_reducible refine (bits_OnesCount.calls (IntKind.u64.wrap (x7_1)) t203 _ A11.out).mono ?_); rintro e w' ⟨rfl, ⟨nd, rfl⟩⟩; obtain ⟨hcz17_0, hcz17_1, hcz17_2⟩ := bc3 BK200.out) | (go_at_call 62; (with_reducible refine (feed_grid_dead.calls k1 a0_0 _ _ l0_1 _ _ l0_2 (Go.bits .andNot .i64 a1 x12_1) a2 false _ ?side1 HC0_1.out ?side3 HC0_2.out A13.out).mono ?_); (case side1 => repeat (first | exact (Kd.C_below HR0_1.out bel) | (with_reducible refine Kd.C_alloc ?_ _) | (with_reducible refine Kd.C_drewN ?_ _) | (with_reducible refine Kd.C_drew ?_))); (case side3 => repeat (first | exact (Kd.C_below HR0_2.out bel) | (with_reducible refine Kd.C_alloc ?_ _) | (with_reducible refine Kd.C_drewN ?_ _) | (with_reducible refine Kd.C_drew ?_))); rintro e w18 ⟨rfl, hb⟩; replace BK200 := Aside0.mk (blk_below (g := gb200) blkz hb); replace HB := Aside0.mk (below_step bel hb); clear hb))
       go_roundg k1
       case measure => have := HK1.out; omega
       case rel => exact ⟨(x7_1), (wrap64 (x12_1 + 1)), rsz, rsz, H', ⟨by have := HK1.out; omega⟩, ⟨blkz⟩, ⟨bel⟩⟩
     ·
      rw [if_neg c12] at H
      have c12b0 : decide (t202 < t203) = false := decide_eq_false c12
      clear c12
      have H' := Aside0.mk H
      clear H
      go_wp2_with (first | (go_at_call 61; (with_reducible refine (bits_OnesCount.calls (IntKind.u64.wrap (x12_1)) t202 _ A10.out).mono ?_); rintro e w' ⟨rfl, ⟨nd, rfl⟩⟩) | (go_at_call 61; (with_reducible refine (bits_OnesCount.calls (IntKind.u64.wrap (x7_1)) t203 _ A11.out).mono ?_); rintro e w' ⟨rfl, ⟨nd, rfl⟩⟩))
      go_roundg k1
      case measure => have := HK1.out; omega
      case rel => exact ⟨(x7_1), (wrap64 (x12_1 + 1)), rsz, rsz, H', ⟨by have := HK1.out; omega⟩, ⟨blkz⟩, ⟨bel⟩⟩
    ·
     rw [if_neg c9] at H
     have c9b0 : ((Go.bits .andNot .i64 x12_1 a1) == 0) = false := beq_eq_false_iff_ne.mpr c9
     have c9b1 : ((Go.bits .andNot .i64 x12_1 a1) != 0) = true := bne_iff_ne.mpr c9
     have H' := Aside0.mk H
     clear H
     go_wp2
     go_roundg k1
     case measure => have := HK1.out; omega
     case rel => exact ⟨(x7_1), (wrap64 (x12_1 + 1)), rsz, rsz, H', ⟨by have := HK1.out; omega⟩, ⟨blkz⟩, ⟨bel⟩⟩
   ·
    rw [if_neg c8] at H
    have c8b0 : decide (x12_1 < t201) = false := decide_eq_false c8
    clear c8
    obtain rfl := Option.some.inj H
    go_wp2
    go_ret
    exact ⟨ezz, bel⟩

/-! ### feed_Isolate: function 20 -/
def feed_Isolate.f (k : Nat) (a0_0 : Int) (l0_1 : List (S47)) (l0_2 : List (S49)) (a1 : Int) (a2 : Int) : Option (List Int × Int) := (feed_asked.f a0_0 l0_1 l0_2 a1 a2).bind fun bt206 => (if bt206.2 = 0 then ((feed_grid_atHome.f bt206.1 l0_1 l0_2 a2).bind fun t215 => (if t215 = true then (some (([] : List Int), 5)) else ((feed_grid_least.f k bt206.1 l0_1 l0_2 a1 a2).bind fun t216 => ((feed_list.f k t216).bind fun t217 => (some (t217, 0)))))) else (some (([] : List Int), bt206.2)))
theorem feed_Isolate.mono : ∀ a0 a1 a2 a3 a4 k, LeO (feed_Isolate.f k a0 a1 a2 a3 a4) (feed_Isolate.f (k + 1) a0 a1 a2 a3 a4) := by
 intro a0 a1 a2 a3 a4 k
 unfold feed_Isolate.f
 repeat' first
   | (with_reducible exact feed_grid_least.mono _ _ _ _ _ _)
   | (with_reducible exact feed_list.mono _ _)
   | (with_reducible exact LeO.refl _)
   | (with_reducible exact LeO.none _)
   | (with_reducible refine LeO.ite ?_ ?_)
   | (with_reducible refine LeO.bind ?_ (fun _ => ?_))
   | exact feed_grid_least.mono _ _ _ _ _ _
   | exact feed_list.mono _ _
   | exact LeO.none _
   | refine LeO.ite ?_ ?_
   | refine LeO.bind ?_ (fun _ => ?_)
set_option maxHeartbeats 8000000 in
set_option maxRecDepth 100000 in
theorem feed_Isolate.calls (k : Nat) (a0_0 : Int) (A0_1 : Option Addr) (c0_1 : Nat) (l0_1 : List (S47)) (A0_2 : Option Addr) (c0_2 : Nat) (l0_2 : List (S49)) (a1 : Int) (a2 : Int) (r1 : List Int) (r2 : Int) (w : World) (hr0_1 : Kd.C k47 w A0_1 l0_1.length l0_1) (hc0_1 : l0_1.length ≤ c0_1) (hr0_2 : Kd.C k49 w A0_2 l0_2.length l0_2) (hc0_2 : l0_2.length ≤ c0_2) (hT : Tab.Tabs w) (h : feed_Isolate.f k a0_0 l0_1 l0_2 a1 a2 = some (r1, r2)) :
  Calls Tryd.prog 20 #[.agg #[.int .i64 a0_0, .slice A0_1 l0_1.length c0_1, .slice A0_2 l0_2.length c0_2], .int .i64 a1, .int .i64 a2] w fun e w' => ∃ v0_ : Value, e = .returned (.tuple #[v0_, .int .i64 r2]) ∧ Kd.R (Kd.int .i64) 3 w' w.heap.size (fun _ => True) v0_ r1 ∧ Below w.heap.size w w' := by
 have HT := Aside0.mk hT
 clear hT
 have hu25 := Tryd.underlying25
 have hu54 := Tryd.underlying54
 have HR0_1 := Aside0.mk hr0_1
 have HC0_1 := Aside0.mk hc0_1
 clear hr0_1 hc0_1
 have HR0_2 := Aside0.mk hr0_2
 have HC0_2 := Aside0.mk hc0_2
 clear hr0_2 hc0_2
 have HB := Aside0.mk (Below.refl w.heap.size w)
 have H : ((feed_asked.f a0_0 l0_1 l0_2 a1 a2).bind fun bt206 => (if bt206.2 = 0 then ((feed_grid_atHome.f bt206.1 l0_1 l0_2 a2).bind fun t215 => (if t215 = true then (some (([] : List Int), 5)) else ((feed_grid_least.f k bt206.1 l0_1 l0_2 a1 a2).bind fun t216 => ((feed_list.f k t216).bind fun t217 => (some (t217, 0)))))) else (some (([] : List Int), bt206.2)))) = some (r1, r2) := h
 clear h
 replace H := Option.bind_eq_some_iff.mp H
 obtain ⟨⟨t206, t213⟩, A40, H⟩ := H
 try dsimp only at H
 have A4 := Aside0.mk A40
 clear A40
 by_cases c5 : t213 = 0
 ·
  rw [if_pos c5] at H
  have c5b0 : (t213 == 0) = true := beq_iff_eq.mpr c5
  have c5b1 : (t213 != 0) = false := bne_eq_false_iff_eq.mpr c5
  clear c5
  replace H := Option.bind_eq_some_iff.mp H
  obtain ⟨t215, A60, H⟩ := H
  try dsimp only at H
  have A6 := Aside0.mk A60
  clear A60
  by_cases c7 : t215 = true
  ·
   subst c7
   rw [if_pos rfl] at H
   simp only [Option.some.injEq, Prod.mk.injEq] at H
   obtain ⟨rfl, rfl⟩ := H
   go_enter Tryd.func20, Tryd.ntmps20
   go_wp2_with (first | ((with_reducible refine gate_dst (N := 3) rfl ?_); refine box_event ?hg (N := 3) ?hd (cs := #[.int .i64 a0_0, .slice A0_1 l0_1.length c0_1, .slice A0_2 l0_2.length c0_2]) (t := 25) ?hr ?_; (case hd => rfl); (case hg => rfl); (case hr => first | (go_simp; done) | (go_simp; rfl)); intro gb205 hg w8 hbox hb; have BK205 := Aside0.mk (hbox); have GW205 := bsz (w := w) hg; have GE205 := GW205; replace HB := Aside0.mk (below_step bel hb); clear hb hbox hg; obtain ⟨hcz9_0, hcz9_1, hcz9_2⟩ := bc3 BK205.out) | ((with_reducible refine gate_callee (f := 40) rfl ?_); refine goesL_ (some 14) rfl rfl Tryd.func40 (by kernel_rfl) rfl #[.agg #[.int .i64 a0_0, .slice A0_1 l0_1.length c0_1, .slice A0_2 l0_2.length c0_2], .int .i64 a1, .int .i64 a2] rfl mapz ?_; (with_reducible refine (feed_asked.calls a0_0 _ _ l0_1 _ _ l0_2 a1 a2 t206 t213 _ (cbz HR0_1) HC0_1.out (cbz HR0_2) HC0_2.out A4.out).mono ?_); rintro e w10 ⟨rfl, hb⟩; refine ⟨_, rfl, ?_⟩; replace BK205 := Aside0.mk (blk_below (g := gb205) blkz hb); replace HB := Aside0.mk (below_step bel hb); clear hb) | ((with_reducible refine gate_dst (N := 8) rfl ?_); refine box_event ?hg (N := 8) ?hd (cs := #[.int .i64 0, .slice none 0 0, .slice none 0 0]) (t := 54) ?hr ?_; (case hd => rfl); (case hg => rfl); (case hr => first | (go_simp; done) | (go_simp; rfl)); intro gb214 hg w11 hbox hb; have BK214 := Aside0.mk (hbox); have GW214 := bsz (w := w) hg; have GE214 := GW214; have NB205_214 := neL (g := gb205) hg; have NB214_205 := neR (g := gb205) hg; replace BK205 := Aside0.mk (blk_below (g := gb205) blkz hb); replace HB := Aside0.mk (below_step bel hb); clear hb hbox hg; have hnb12 := NB214_205.out; have hnc12 := NB205_214.out; obtain ⟨hcz13_0, hcz13_1, hcz13_2⟩ := bc3 BK214.out; obtain ⟨hfz13_0, hfz13_1, hfz13_2⟩ := bf3 BK214.out) | ((with_reducible refine gate_callee (f := 41) rfl ?_); refine goesL_ (some 24) rfl rfl Tryd.func41 (by kernel_rfl) rfl #[.agg #[.int .i64 t206, .slice A0_1 l0_1.length c0_1, .slice A0_2 l0_2.length c0_2], .int .i64 a2] rfl mapz ?_; (with_reducible refine (feed_grid_atHome.calls t206 _ _ l0_1 _ _ l0_2 a2 true _ (cbz HR0_1) HC0_1.out (cbz HR0_2) HC0_2.out A6.out).mono ?_); rintro e w14 ⟨rfl, hb⟩; refine ⟨_, rfl, ?_⟩; replace BK205 := Aside0.mk (blk_below (g := gb205) (o := .cells #[.int .i64 a0_0, .slice A0_1 l0_1.length c0_1, .slice A0_2 l0_2.length c0_2] 25 (0, 0)) (by (with_reducible repeat (first | refine blk_drewN ?_ _ | refine blk_drew ?_ | refine blk_alloc ?_ _)); refine blk_far ?_ NB205_214.out _; (with_reducible repeat (first | refine blk_drewN ?_ _ | refine blk_drew ?_ | refine blk_alloc ?_ _)); refine blk_far ?_ NB205_214.out _; (with_reducible repeat (first | refine blk_drewN ?_ _ | refine blk_drew ?_ | refine blk_alloc ?_ _)); refine blk_far ?_ NB205_214.out _; (with_reducible repeat (first | refine blk_drewN ?_ _ | refine blk_drew ?_ | refine blk_alloc ?_ _)); exact BK205.out) hb); replace BK214 := Aside0.mk (blk_below (g := gb214) (o := .cells #[.int .i64 t206, .slice A0_1 l0_1.length c0_1, .slice A0_2 l0_2.length c0_2] 54 (0, 0)) (by (with_reducible repeat (first | refine blk_drewN ?_ _ | refine blk_drew ?_ | refine blk_alloc ?_ _)); refine blk_put (cs := #[.int .i64 t206, .slice A0_1 l0_1.length c0_1, .slice none 0 0]) ?_ 2 _ rfl; (with_reducible repeat (first | refine blk_drewN ?_ _ | refine blk_drew ?_ | refine blk_alloc ?_ _)); refine blk_put (cs := #[.int .i64 t206, .slice none 0 0, .slice none 0 0]) ?_ 1 _ rfl; (with_reducible repeat (first | refine blk_drewN ?_ _ | refine blk_drew ?_ | refine blk_alloc ?_ _)); refine blk_put (cs := #[.int .i64 0, .slice none 0 0, .slice none 0 0]) ?_ 0 _ rfl; (with_reducible repeat (first | refine blk_drewN ?_ _ | refine blk_drew ?_ | refine blk_alloc ?_ _)); exact BK214.out) hb); replace HB := Aside0.mk (below_step bel hb); clear hb))
   go_ret2
   exact ⟨_, ezz, by first | exact Kd.R_nil _ _ _ _ _ | exact Kd.N_nil _ _ _ _ _ | exact Kd.V_nil _ _ _ _ _ | exact Kd.Q_nil _ _ _ _ _ | exact Kd.S_nil _ _ _ _ _, bel⟩
  ·
   replace c7 := Bool.eq_false_iff.mpr c7
   subst c7
   rw [if_neg (show ¬ (false = true) by decide)] at H
   replace H := Option.bind_eq_some_iff.mp H
   obtain ⟨t216, A150, H⟩ := H
   try dsimp only at H
   have A15 := Aside0.mk A150
   clear A150
   replace H := Option.bind_eq_some_iff.mp H
   obtain ⟨t217, A160, H⟩ := H
   try dsimp only at H
   have A16 := Aside0.mk A160
   clear A160
   simp only [Option.some.injEq, Prod.mk.injEq] at H
   obtain ⟨rfl, rfl⟩ := H
   go_enter Tryd.func20, Tryd.ntmps20
   go_wp2_with (first | ((with_reducible refine gate_dst (N := 3) rfl ?_); refine box_event ?hg (N := 3) ?hd (cs := #[.int .i64 a0_0, .slice A0_1 l0_1.length c0_1, .slice A0_2 l0_2.length c0_2]) (t := 25) ?hr ?_; (case hd => rfl); (case hg => rfl); (case hr => first | (go_simp; done) | (go_simp; rfl)); intro gb205 hg w17 hbox hb; have BK205 := Aside0.mk (hbox); have GW205 := bsz (w := w) hg; have GE205 := GW205; replace HB := Aside0.mk (below_step bel hb); clear hb hbox hg; obtain ⟨hcz18_0, hcz18_1, hcz18_2⟩ := bc3 BK205.out) | ((with_reducible refine gate_callee (f := 40) rfl ?_); refine goesL_ (some 14) rfl rfl Tryd.func40 (by kernel_rfl) rfl #[.agg #[.int .i64 a0_0, .slice A0_1 l0_1.length c0_1, .slice A0_2 l0_2.length c0_2], .int .i64 a1, .int .i64 a2] rfl mapz ?_; (with_reducible refine (feed_asked.calls a0_0 _ _ l0_1 _ _ l0_2 a1 a2 t206 t213 _ (cbz HR0_1) HC0_1.out (cbz HR0_2) HC0_2.out A4.out).mono ?_); rintro e w19 ⟨rfl, hb⟩; refine ⟨_, rfl, ?_⟩; replace BK205 := Aside0.mk (blk_below (g := gb205) blkz hb); replace HB := Aside0.mk (below_step bel hb); clear hb) | ((with_reducible refine gate_dst (N := 8) rfl ?_); refine box_event ?hg (N := 8) ?hd (cs := #[.int .i64 0, .slice none 0 0, .slice none 0 0]) (t := 54) ?hr ?_; (case hd => rfl); (case hg => rfl); (case hr => first | (go_simp; done) | (go_simp; rfl)); intro gb214 hg w20 hbox hb; have BK214 := Aside0.mk (hbox); have GW214 := bsz (w := w) hg; have GE214 := GW214; have NB205_214 := neL (g := gb205) hg; have NB214_205 := neR (g := gb205) hg; replace BK205 := Aside0.mk (blk_below (g := gb205) blkz hb); replace HB := Aside0.mk (below_step bel hb); clear hb hbox hg; have hnb21 := NB214_205.out; have hnc21 := NB205_214.out; obtain ⟨hcz22_0, hcz22_1, hcz22_2⟩ := bc3 BK214.out; obtain ⟨hfz22_0, hfz22_1, hfz22_2⟩ := bf3 BK214.out) | ((with_reducible refine gate_callee (f := 41) rfl ?_); refine goesL_ (some 24) rfl rfl Tryd.func41 (by kernel_rfl) rfl #[.agg #[.int .i64 t206, .slice A0_1 l0_1.length c0_1, .slice A0_2 l0_2.length c0_2], .int .i64 a2] rfl mapz ?_; (with_reducible refine (feed_grid_atHome.calls t206 _ _ l0_1 _ _ l0_2 a2 false _ (cbz HR0_1) HC0_1.out (cbz HR0_2) HC0_2.out A6.out).mono ?_); rintro e w23 ⟨rfl, hb⟩; refine ⟨_, rfl, ?_⟩; replace BK205 := Aside0.mk (blk_below (g := gb205) (o := .cells #[.int .i64 a0_0, .slice A0_1 l0_1.length c0_1, .slice A0_2 l0_2.length c0_2] 25 (0, 0)) (by (with_reducible repeat (first | refine blk_drewN ?_ _ | refine blk_drew ?_ | refine blk_alloc ?_ _)); refine blk_far ?_ NB205_214.out _; (with_reducible repeat (first | refine blk_drewN ?_ _ | refine blk_drew ?_ | refine blk_alloc ?_ _)); refine blk_far ?_ NB205_214.out _; (with_reducible repeat (first | refine blk_drewN ?_ _ | refine blk_drew ?_ | refine blk_alloc ?_ _)); refine blk_far ?_ NB205_214.out _; (with_reducible repeat (first | refine blk_drewN ?_ _ | refine blk_drew ?_ | refine blk_alloc ?_ _)); exact BK205.out) hb); replace BK214 := Aside0.mk (blk_below (g := gb214) (o := .cells #[.int .i64 t206, .slice A0_1 l0_1.length c0_1, .slice A0_2 l0_2.length c0_2] 54 (0, 0)) (by (with_reducible repeat (first | refine blk_drewN ?_ _ | refine blk_drew ?_ | refine blk_alloc ?_ _)); refine blk_put (cs := #[.int .i64 t206, .slice A0_1 l0_1.length c0_1, .slice none 0 0]) ?_ 2 _ rfl; (with_reducible repeat (first | refine blk_drewN ?_ _ | refine blk_drew ?_ | refine blk_alloc ?_ _)); refine blk_put (cs := #[.int .i64 t206, .slice none 0 0, .slice none 0 0]) ?_ 1 _ rfl; (with_reducible repeat (first | refine blk_drewN ?_ _ | refine blk_drew ?_ | refine blk_alloc ?_ _)); refine blk_put (cs := #[.int .i64 0, .slice none 0 0, .slice none 0 0]) ?_ 0 _ rfl; (with_reducible repeat (first | refine blk_drewN ?_ _ | refine blk_drew ?_ | refine blk_alloc ?_ _)); exact BK214.out) hb); replace HB := Aside0.mk (below_step bel hb); clear hb; obtain ⟨hcz24_0, hcz24_1, hcz24_2⟩ := bc3 BK214.out; obtain ⟨hfz24_0, hfz24_1, hfz24_2⟩ := bf3 BK214.out) | ((with_reducible refine gate_callee (f := 43) rfl ?_); refine goesL_ (some 28) rfl rfl Tryd.func43 (by kernel_rfl) rfl #[.agg #[.int .i64 t206, .slice A0_1 l0_1.length c0_1, .slice A0_2 l0_2.length c0_2], .int .i64 a1, .int .i64 a2] rfl mapz ?_; (with_reducible refine (feed_grid_least.calls k t206 _ _ l0_1 _ _ l0_2 a1 a2 t216 _ (cbz HR0_1) HC0_1.out (cbz HR0_2) HC0_2.out A15.out).mono ?_); rintro e w25 ⟨rfl, hb⟩; refine ⟨_, rfl, ?_⟩; replace BK205 := Aside0.mk (blk_below (g := gb205) blkz hb); replace BK214 := Aside0.mk (blk_below (g := gb214) blkz hb); replace HB := Aside0.mk (below_step bel hb); clear hb) | ((with_reducible refine gate_callee (f := 42) rfl ?_); refine goesL_ (some 29) rfl rfl Tryd.func42 (by kernel_rfl) rfl #[.int .i64 t216] rfl mapz ?_; (with_reducible refine (feed_list.calls k t216 t217 _ (tbz HT) A16.out).mono ?_); rintro e w26 ⟨v218, rfl, ho0, hb⟩; refine ⟨_, rfl, ?_⟩; have HO219 := Aside0.mk (Kd.R_lower ho0 (below_size bel)); replace BK205 := Aside0.mk (blk_below (g := gb205) blkz hb); replace BK214 := Aside0.mk (blk_below (g := gb214) blkz hb); replace HB := Aside0.mk (below_step bel hb); (try clear hb); (try clear hb2); (try clear hk); (try clear hi); (try clear ho0)))
   go_ret2
   exact ⟨_, ezz, by (with_reducible repeat (first | apply Kd.R_alloc | apply Kd.R_drewN | apply Kd.R_drew)); exact HO219.out, bel⟩
 ·
  rw [if_neg c5] at H
  have c5b0 : (t213 == 0) = false := beq_eq_false_iff_ne.mpr c5
  have c5b1 : (t213 != 0) = true := bne_iff_ne.mpr c5
  simp only [Option.some.injEq, Prod.mk.injEq] at H
  obtain ⟨rfl, rfl⟩ := H
  go_enter Tryd.func20, Tryd.ntmps20
  go_wp2_with (first | ((with_reducible refine gate_dst (N := 3) rfl ?_); refine box_event ?hg (N := 3) ?hd (cs := #[.int .i64 a0_0, .slice A0_1 l0_1.length c0_1, .slice A0_2 l0_2.length c0_2]) (t := 25) ?hr ?_; (case hd => rfl); (case hg => rfl); (case hr => first | (go_simp; done) | (go_simp; rfl)); intro gb205 hg w27 hbox hb; have BK205 := Aside0.mk (hbox); have GW205 := bsz (w := w) hg; have GE205 := GW205; replace HB := Aside0.mk (below_step bel hb); clear hb hbox hg; obtain ⟨hcz28_0, hcz28_1, hcz28_2⟩ := bc3 BK205.out) | ((with_reducible refine gate_callee (f := 40) rfl ?_); refine goesL_ (some 14) rfl rfl Tryd.func40 (by kernel_rfl) rfl #[.agg #[.int .i64 a0_0, .slice A0_1 l0_1.length c0_1, .slice A0_2 l0_2.length c0_2], .int .i64 a1, .int .i64 a2] rfl mapz ?_; (with_reducible refine (feed_asked.calls a0_0 _ _ l0_1 _ _ l0_2 a1 a2 t206 t213 _ (cbz HR0_1) HC0_1.out (cbz HR0_2) HC0_2.out A4.out).mono ?_); rintro e w29 ⟨rfl, hb⟩; refine ⟨_, rfl, ?_⟩; replace BK205 := Aside0.mk (blk_below (g := gb205) blkz hb); replace HB := Aside0.mk (below_step bel hb); clear hb) | ((with_reducible refine gate_dst (N := 8) rfl ?_); refine box_event ?hg (N := 8) ?hd (cs := #[.int .i64 0, .slice none 0 0, .slice none 0 0]) (t := 54) ?hr ?_; (case hd => rfl); (case hg => rfl); (case hr => first | (go_simp; done) | (go_simp; rfl)); intro gb214 hg w30 hbox hb; have BK214 := Aside0.mk (hbox); have GW214 := bsz (w := w) hg; have GE214 := GW214; have NB205_214 := neL (g := gb205) hg; have NB214_205 := neR (g := gb205) hg; replace BK205 := Aside0.mk (blk_below (g := gb205) blkz hb); replace HB := Aside0.mk (below_step bel hb); clear hb hbox hg; have hnb31 := NB214_205.out; have hnc31 := NB205_214.out; obtain ⟨hcz32_0, hcz32_1, hcz32_2⟩ := bc3 BK214.out; obtain ⟨hfz32_0, hfz32_1, hfz32_2⟩ := bf3 BK214.out))
  go_ret2
  exact ⟨_, ezz, by first | exact Kd.R_nil _ _ _ _ _ | exact Kd.N_nil _ _ _ _ _ | exact Kd.V_nil _ _ _ _ _ | exact Kd.Q_nil _ _ _ _ _ | exact Kd.S_nil _ _ _ _ _, bel⟩

end Go.Proofs.YtldifdmfefpglaaDoor.XFeed