-- Written by wip/pack.py of this repo: texts of this claim, put together.
import Derived.Test.YtldifdmfefpglaaDoorKTopOrderc
namespace Go.Proofs.YtldifdmfefpglaaDoor.XFeed
open Go.RowKit Go.Proofs.YtldifdmfefpglaaDoorW.PrintWords Go.Proofs.YtldifdmfefpglaaDoorW.PrintLast Go.Proofs.YtldifdmfefpglaaDoorW.PrintMore
attribute [local go_sem] max2_int min2_int max_two min_two max_three min_three max_four min_four   -- for this text's walks alone
set_option linter.unusedVariables false
set_option linter.unusedSimpArgs false
/-! ### slices_Index_int_int: function 56 -/
def slices_Index_int_int.l0 : Nat → List Int → Int → Int → Int → Option (Int)
 | 0, _, _, _, _ => none
 | k + 1, x0, x1, x7, x8 => if x8 < x7 then (if 0 ≤ x8 then (if x8 < (x0.length : Int) then (if x1 = (rd x0 x8) then (some x8) else (slices_Index_int_int.l0 k x0 x1 x7 (wrap64 (x8 + 1)))) else (none)) else (none)) else (some (-1))
def slices_Index_int_int.f (k : Nat) (l0 : List Int) (a1 : Int) : Option (Int) := slices_Index_int_int.l0 k l0 a1 (l0.length : Int) 0
theorem slices_Index_int_int.mono_l : ∀ k, (∀ y0 y1 y2 y3, LeO (slices_Index_int_int.l0 k y0 y1 y2 y3) (slices_Index_int_int.l0 (k + 1) y0 y1 y2 y3))
 | 0 => fun _ _ _ _ r h => by simp [slices_Index_int_int.l0] at h
 | k + 1 => by
  have ih0 := slices_Index_int_int.mono_l k
  ·
   intro y0 y1 y2 y3
   unfold slices_Index_int_int.l0
   repeat' first
   | (with_reducible exact ih0 _ _ _ _)
   | (with_reducible exact LeO.refl _)
   | (with_reducible exact LeO.none _)
   | (with_reducible refine LeO.ite ?_ ?_)
   | (with_reducible refine LeO.bind ?_ (fun _ => ?_))
   | exact ih0 _ _ _ _
   | exact LeO.none _
   | refine LeO.ite ?_ ?_
   | refine LeO.bind ?_ (fun _ => ?_)
theorem slices_Index_int_int.mono : ∀ a0 a1 k, LeO (slices_Index_int_int.f k a0 a1) (slices_Index_int_int.f (k + 1) a0 a1) := by
 intro a0 a1 k
 have ih0 := slices_Index_int_int.mono_l k
 unfold slices_Index_int_int.f
 repeat' first
   | (with_reducible exact ih0 _ _ _ _)
   | (with_reducible exact LeO.refl _)
   | (with_reducible exact LeO.none _)
   | (with_reducible refine LeO.ite ?_ ?_)
   | (with_reducible refine LeO.bind ?_ (fun _ => ?_))
   | exact ih0 _ _ _ _
   | exact LeO.none _
   | refine LeO.ite ?_ ?_
   | refine LeO.bind ?_ (fun _ => ?_)
set_option maxHeartbeats 8000000 in
set_option maxRecDepth 100000 in
theorem slices_Index_int_int.calls (k : Nat) (A0 : Option Addr) (c0 : Nat) (l0 : List Int) (a1 : Int) (r : Int) (w : World) (hr0 : Kd.C (Kd.int .i64) w A0 l0.length l0) (hc0 : l0.length ≤ c0) (h : slices_Index_int_int.f k l0 a1 = some r) :
  Calls Tryd.prog 56 #[.slice A0 l0.length c0, .int .i64 a1] w fun e w' => e = .returned (.int .i64 r) ∧ Drawn0 w w' := by
 have HR0 := Aside0.mk hr0
 have HC0 := Aside0.mk hc0
 clear hr0 hc0
 have H : (slices_Index_int_int.l0 k l0 a1 (l0.length : Int) 0) = some r := h
 clear h
 have H' := Aside0.mk H
 clear H
 go_enter Tryd.func56, Tryd.ntmps56
 go_wp2
 go_loopg [8] k (fun kq v8 w' => ∃ (x8_1 : Int), v8 = .int .i64 x8_1 ∧ Aside0 (slices_Index_int_int.l0 kq l0 a1 (l0.length : Int) x8_1 = some r) ∧ Aside0 (kq ≤ k) ∧ Drawn0 w w')
 case atStart => exact ⟨(0), rsz, H', ⟨Nat.le_refl _⟩, drz⟩
 case round =>
  clear H'
  try clear p2
  obtain ⟨x8_1, rfl, HA, HK1, ⟨m1, rfl⟩⟩ := hrel
  cases gk with
  | zero => exact absurd HA.out (by simp [slices_Index_int_int.l0])
  | succ k1 =>
   have H := HA.out
   clear HA
   simp only [slices_Index_int_int.l0] at H
   by_cases c3 : x8_1 < (l0.length : Int)
   ·
    rw [if_pos c3] at H
    have c3b0 : decide (x8_1 < (l0.length : Int)) = true := decide_eq_true c3
    clear c3
    by_cases c4 : 0 ≤ x8_1
    ·
     rw [if_pos c4] at H
     have c4b0 : decide (0 ≤ x8_1) = true := decide_eq_true c4
     clear c4
     by_cases c5 : x8_1 < (l0.length : Int)
     ·
      rw [if_pos c5] at H
      have c5b0 : decide (x8_1 < (l0.length : Int)) = true := decide_eq_true c5
      clear c5
      by_cases c6 : a1 = (rd l0 x8_1)
      ·
       rw [if_pos c6] at H
       have c6b0 : (a1 == (rd l0 x8_1)) = true := beq_iff_eq.mpr c6
       have c6b1 : (a1 != (rd l0 x8_1)) = false := bne_eq_false_iff_eq.mpr c6
       clear c6
       obtain rfl := Option.some.inj H
       have p220 : 0 ≤ (x8_1 : Int) := of_decide_eq_true asz
       have q220 : x8_1 < (l0.length : Int) := of_decide_eq_true asz
       obtain ⟨ad220, e220, hx220_0⟩ := Kd.at_int HR0.out x8_1 p220 q220
       cases e220
       replace p220 := eq_true p220
       replace q220 := eq_true q220
       go_wp2
       go_ret
       exact ⟨by first | rfl | (simp; done) | (simp [*]; done), drz⟩
      ·
       rw [if_neg c6] at H
       have c6b0 : (a1 == (rd l0 x8_1)) = false := beq_eq_false_iff_ne.mpr c6
       have c6b1 : (a1 != (rd l0 x8_1)) = true := bne_iff_ne.mpr c6
       have H' := Aside0.mk H
       clear H
       have p220 : 0 ≤ (x8_1 : Int) := of_decide_eq_true asz
       have q220 : x8_1 < (l0.length : Int) := of_decide_eq_true asz
       obtain ⟨ad220, e220, hx220_0⟩ := Kd.at_int HR0.out x8_1 p220 q220
       cases e220
       replace p220 := eq_true p220
       replace q220 := eq_true q220
       go_wp2
       go_roundg k1
       case measure => have := HK1.out; omega
       case rel => exact ⟨(wrap64 (x8_1 + 1)), rsz, H', ⟨by have := HK1.out; omega⟩, drz⟩
     ·
      rw [if_neg c5] at H
      exact absurd H (by simp)
    ·
     rw [if_neg c4] at H
     exact absurd H (by simp)
   ·
    rw [if_neg c3] at H
    have c3b0 : decide (x8_1 < (l0.length : Int)) = false := decide_eq_false c3
    clear c3
    obtain rfl := Option.some.inj H
    go_wp2
    go_ret
    exact ⟨by first | rfl | (simp; done) | (simp [*]; done), drz⟩

/-! ### slices_Contains_int_int: function 33 -/
def slices_Contains_int_int.f (k : Nat) (l0 : List Int) (a1 : Int) : Option (Bool) := (slices_Index_int_int.f k l0 a1).bind fun t221 => (some (decide (t221 ≥ 0)))
theorem slices_Contains_int_int.mono : ∀ a0 a1 k, LeO (slices_Contains_int_int.f k a0 a1) (slices_Contains_int_int.f (k + 1) a0 a1) := by
 intro a0 a1 k
 unfold slices_Contains_int_int.f
 repeat' first
   | (with_reducible exact slices_Index_int_int.mono _ _ _)
   | (with_reducible exact LeO.refl _)
   | (with_reducible exact LeO.none _)
   | (with_reducible refine LeO.ite ?_ ?_)
   | (with_reducible refine LeO.bind ?_ (fun _ => ?_))
   | exact slices_Index_int_int.mono _ _ _
   | exact LeO.none _
   | refine LeO.ite ?_ ?_
   | refine LeO.bind ?_ (fun _ => ?_)
set_option maxHeartbeats 8000000 in
set_option maxRecDepth 100000 in
theorem slices_Contains_int_int.calls (k : Nat) (A0 : Option Addr) (c0 : Nat) (l0 : List Int) (a1 : Int) (r : Bool) (w : World) (hr0 : Kd.C (Kd.int .i64) w A0 l0.length l0) (hc0 : l0.length ≤ c0) (h : slices_Contains_int_int.f k l0 a1 = some r) :
  Calls Tryd.prog 33 #[.slice A0 l0.length c0, .int .i64 a1] w fun e w' => e = .returned (.bool r) ∧ Drawn0 w w' := by
 have HR0 := Aside0.mk hr0
 have HC0 := Aside0.mk hc0
 clear hr0 hc0
 have H : ((slices_Index_int_int.f k l0 a1).bind fun t221 => (some (decide (t221 ≥ 0)))) = some r := h
 clear h
 replace H := Option.bind_eq_some_iff.mp H
 obtain ⟨t221, A30, H⟩ := H
 try dsimp only at H
 have A3 := Aside0.mk A30
 clear A30
 obtain rfl := Option.some.inj H
 go_enter Tryd.func33, Tryd.ntmps33
 go_wp2_with (first | ((with_reducible refine gate_callee (f := 56) rfl ?_); refine goesL_ (some 7) rfl rfl Tryd.func56 (by kernel_rfl) rfl #[.slice A0 l0.length c0, .int .i64 a1] rfl mapz ?_; (with_reducible refine (slices_Index_int_int.calls k _ _ l0 a1 t221 _ ?side1 HC0.out A3.out).mono ?_); (case side1 => repeat (first | exact HR0.out | (with_reducible refine Kd.C_alloc ?_ _) | (with_reducible refine Kd.C_drewN ?_ _) | (with_reducible refine Kd.C_drew ?_))); rintro e w' ⟨rfl, ⟨nd, rfl⟩⟩; refine ⟨_, rfl, ?_⟩))
 go_ret
 exact ⟨by first | rfl | (simp; done) | (simp [*]; done), drz⟩

/-! ### feed_grid_live: function 63 -/
def feed_grid_live.l0 : Nat → List Int → List Int → Int → Int → Option (List Int)
 | 0, _, _, _, _ => none
 | k + 1, x5, x10, x11, x12 => if x12 < x11 then (if 0 ≤ x12 then (if x12 < (x10.length : Int) then ((bits_OnesCount.f (rd x10 x12)).bind fun t227 => (if t227 = 0 then (if x5.length < 17592186044416 then (feed_grid_live.l0 k (x5 ++ [0]) x10 x11 (wrap64 (x12 + 1))) else (none)) else (if t227 = 1 then ((bits_TrailingZeros.f (rd x10 x12)).bind fun t231 => (if x5.length < 17592186044416 then (feed_grid_live.l0 k (x5 ++ [t231]) x10 x11 (wrap64 (x12 + 1))) else (none))) else (if x5.length < 17592186044416 then (feed_grid_live.l0 k (x5 ++ [(-1)]) x10 x11 (wrap64 (x12 + 1))) else (none))))) else (none)) else (none)) else (some x5)
def feed_grid_live.f (k : Nat) (a0_0 : Int) (l0_1 : List (S47)) (l0_2 : List (S49)) (a1 : Int) : Option (List Int) := (feed_grid_fed.f k a0_0 l0_1 l0_2 a1).bind fun t223 => (feed_grid_live.l0 k ([] : List Int) t223 (t223.length : Int) 0)
theorem feed_grid_live.mono_l : ∀ k, (∀ y0 y1 y2 y3, LeO (feed_grid_live.l0 k y0 y1 y2 y3) (feed_grid_live.l0 (k + 1) y0 y1 y2 y3))
 | 0 => fun _ _ _ _ r h => by simp [feed_grid_live.l0] at h
 | k + 1 => by
  have ih0 := feed_grid_live.mono_l k
  ·
   intro y0 y1 y2 y3
   unfold feed_grid_live.l0
   repeat' first
   | (with_reducible exact ih0 _ _ _ _)
   | (with_reducible exact feed_grid_fed.mono _ _ _ _ _)
   | (with_reducible exact LeO.refl _)
   | (with_reducible exact LeO.none _)
   | (with_reducible refine LeO.ite ?_ ?_)
   | (with_reducible refine LeO.bind ?_ (fun _ => ?_))
   | exact ih0 _ _ _ _
   | exact feed_grid_fed.mono _ _ _ _ _
   | exact LeO.none _
   | refine LeO.ite ?_ ?_
   | refine LeO.bind ?_ (fun _ => ?_)
theorem feed_grid_live.mono : ∀ a0 a1 a2 a3 k, LeO (feed_grid_live.f k a0 a1 a2 a3) (feed_grid_live.f (k + 1) a0 a1 a2 a3) := by
 intro a0 a1 a2 a3 k
 have ih0 := feed_grid_live.mono_l k
 unfold feed_grid_live.f
 repeat' first
   | (with_reducible exact ih0 _ _ _ _)
   | (with_reducible exact feed_grid_fed.mono _ _ _ _ _)
   | (with_reducible exact LeO.refl _)
   | (with_reducible exact LeO.none _)
   | (with_reducible refine LeO.ite ?_ ?_)
   | (with_reducible refine LeO.bind ?_ (fun _ => ?_))
   | exact ih0 _ _ _ _
   | exact feed_grid_fed.mono _ _ _ _ _
   | exact LeO.none _
   | refine LeO.ite ?_ ?_
   | refine LeO.bind ?_ (fun _ => ?_)
set_option maxHeartbeats 8000000 in
set_option maxRecDepth 100000 in
theorem feed_grid_live.calls (k : Nat) (a0_0 : Int) (A0_1 : Option Addr) (c0_1 : Nat) (l0_1 : List (S47)) (A0_2 : Option Addr) (c0_2 : Nat) (l0_2 : List (S49)) (a1 : Int) (r : List Int) (w : World) (hr0_1 : Kd.C k47 w A0_1 l0_1.length l0_1) (hc0_1 : l0_1.length ≤ c0_1) (hr0_2 : Kd.C k49 w A0_2 l0_2.length l0_2) (hc0_2 : l0_2.length ≤ c0_2) (hT : Tab.Tabs w) (h : feed_grid_live.f k a0_0 l0_1 l0_2 a1 = some r) :
  Calls Tryd.prog 63 #[.agg #[.int .i64 a0_0, .slice A0_1 l0_1.length c0_1, .slice A0_2 l0_2.length c0_2], .int .i64 a1] w fun e w' => ∃ v0_ : Value, e = .returned (v0_) ∧ Kd.R (Kd.int .i64) 3 w' w.heap.size (fun _ => True) v0_ r ∧ Below w.heap.size w w' := by
 have HT := Aside0.mk hT
 clear hT
 have hu54 := Tryd.underlying54
 have HR0_1 := Aside0.mk hr0_1
 have HC0_1 := Aside0.mk hc0_1
 clear hr0_1 hc0_1
 have HR0_2 := Aside0.mk hr0_2
 have HC0_2 := Aside0.mk hc0_2
 clear hr0_2 hc0_2
 have HB := Aside0.mk (Below.refl w.heap.size w)
 have H : ((feed_grid_fed.f k a0_0 l0_1 l0_2 a1).bind fun t223 => (feed_grid_live.l0 k ([] : List Int) t223 (t223.length : Int) 0)) = some r := h
 clear h
 replace H := Option.bind_eq_some_iff.mp H
 obtain ⟨t223, A30, H⟩ := H
 try dsimp only at H
 have A3 := Aside0.mk A30
 clear A30
 have H' := Aside0.mk H
 clear H
 go_enter Tryd.func63, Tryd.ntmps63
 go_wp2_with (first | ((with_reducible refine gate_dst (N := 2) rfl ?_); refine box_event ?hg (N := 2) ?hd (cs := #[.int .i64 a0_0, .slice A0_1 l0_1.length c0_1, .slice A0_2 l0_2.length c0_2]) (t := 54) ?hr ?_; (case hd => rfl); (case hg => rfl); (case hr => first | (go_simp; done) | (go_simp; rfl)); intro gb222 hg w4 hbox hb; have BK222 := Aside0.mk (hbox); have GW222 := bsz (w := w) hg; have GE222 := GW222; replace HB := Aside0.mk (below_step bel hb); clear hb hbox hg; obtain ⟨hcz5_0, hcz5_1, hcz5_2⟩ := bc3 BK222.out) | ((with_reducible refine gate_callee (f := 53) rfl ?_); refine goesL_ (some 10) rfl rfl Tryd.func53 (by kernel_rfl) rfl #[.agg #[.int .i64 a0_0, .slice A0_1 l0_1.length c0_1, .slice A0_2 l0_2.length c0_2], .int .i64 a1] rfl mapz ?_; (with_reducible refine (feed_grid_fed.calls k a0_0 _ _ l0_1 _ _ l0_2 a1 t223 _ (cbz HR0_1) HC0_1.out (cbz HR0_2) HC0_2.out A3.out).mono ?_); rintro e w6 ⟨v224, rfl, ho0, hb⟩; refine ⟨_, rfl, ?_⟩; have HO225 := Aside0.mk (Kd.R_lower ho0 (below_size bel)); replace BK222 := Aside0.mk (blk_below (g := gb222) blkz hb); replace HB := Aside0.mk (below_step bel hb); (try clear hb); (try clear hb2); (try clear hk); (try clear hi); (try clear ho0); obtain ⟨Ao7, co7, eo7⟩ := Kd.R_slice HO225.out; subst eo7))
 go_loopg [5, 12] k (fun kq v5 v12 w' => ∃ (x5_1 : List Int) (x12_1 : Int), v12 = .int .i64 x12_1 ∧ Aside0 (feed_grid_live.l0 kq x5_1 t223 (t223.length : Int) x12_1 = some r) ∧ Aside0 (kq ≤ k) ∧ Aside0 (Kd.R (Kd.int .i64) 3 w' w.heap.size (fun _ => True) v5 x5_1) ∧ Aside0 (Kd.R (Kd.int .u64) 80 w' w.heap.size (fun _ => True) (.slice Ao7 t223.length co7) t223) ∧ Aside0 (w'.heap[gb222]? = some (.cells #[.int .i64 a0_0, (.slice A0_1 l0_1.length c0_1), (.slice A0_2 l0_2.length c0_2)] 54 (0, 0))) ∧ Aside0 (Below w.heap.size w w'))
 case atStart => exact ⟨(([] : List Int)), (0), rsz, H', ⟨Nat.le_refl _⟩, ⟨by first | exact Kd.R_nil _ _ _ _ _ | exact Kd.N_nil _ _ _ _ _ | exact Kd.V_nil _ _ _ _ _ | exact Kd.Q_nil _ _ _ _ _ | exact Kd.S_nil _ _ _ _ _⟩, ⟨by (with_reducible repeat (first | apply Kd.R_alloc | apply Kd.R_drewN | apply Kd.R_drew)); exact HO225.out⟩, ⟨blkz⟩, ⟨bel⟩⟩
 case round =>
  clear H'
  (try clear p2); (try clear c5); (try clear c6); (try clear hcz5_0); (try clear hcz5_1); (try clear hcz5_2); (try clear hfz5_0); (try clear hfz5_1); (try clear hfz5_2)
  obtain ⟨x5_1, x12_1, rfl, HA, HK1, HO_5, HO_10, BK222, HB⟩ := hrel
  cases gk with
  | zero => exact absurd HA.out (by simp [feed_grid_live.l0])
  | succ k1 =>
   have H := HA.out
   clear HA
   simp only [feed_grid_live.l0] at H
   by_cases c8 : x12_1 < (t223.length : Int)
   ·
    rw [if_pos c8] at H
    have c8b0 : decide (x12_1 < (t223.length : Int)) = true := decide_eq_true c8
    clear c8
    by_cases c9 : 0 ≤ x12_1
    ·
     rw [if_pos c9] at H
     have c9b0 : decide (0 ≤ x12_1) = true := decide_eq_true c9
     clear c9
     by_cases c10 : x12_1 < (t223.length : Int)
     ·
      rw [if_pos c10] at H
      have c10b0 : decide (x12_1 < (t223.length : Int)) = true := decide_eq_true c10
      clear c10
      replace H := Option.bind_eq_some_iff.mp H
      obtain ⟨t227, A110, H⟩ := H
      try dsimp only at H
      have A11 := Aside0.mk A110
      clear A110
      by_cases c12 : t227 = 0
      ·
       rw [if_pos c12] at H
       have c12b0 : (t227 == 0) = true := beq_iff_eq.mpr c12
       have c12b1 : (t227 != 0) = false := bne_eq_false_iff_eq.mpr c12
       clear c12
       by_cases c13 : x5_1.length < 17592186044416
       ·
        rw [if_pos c13] at H
        have LMc13 := Aside0.mk c13
        clear c13
        obtain ⟨y228, hy228⟩ : ∃ y_ : List Int, y_ = (x5_1 ++ [0]) := ⟨_, rfl⟩
        replace H : (feed_grid_live.l0 k1 y228 t223 (t223.length : Int) (wrap64 (x12_1 + 1))) = some r := by first | (rw [hy228]; with_reducible exact H) | (have H2_ := (Option.bind_some _ _).symm.trans H; rw [hy228]; with_reducible exact H2_) | (have H2_ := (Option.bind_some _ _).symm.trans H; with_reducible exact H2_) | with_reducible exact H | (rw [hy228]; exact H) | exact H
        have Ny228 := Aside0.mk hy228
        clear hy228
        have H' := Aside0.mk H
        clear H
        have p226 : 0 ≤ (x12_1 : Int) := of_decide_eq_true asz
        have q226 : x12_1 < (t223.length : Int) := of_decide_eq_true asz
        obtain ⟨ad226, e226, hx226_0⟩ := Kd.at_int (Kd.R_reads' HO_10.out).2.2 x12_1 p226 q226
        cases e226
        replace p226 := eq_true p226
        replace q226 := eq_true q226
        go_wp2_with (first | ((with_reducible refine gate_callee (f := 61) rfl ?_); refine goesL_ (some 17) rfl rfl Tryd.func61 (by kernel_rfl) rfl #[.int .u64 (rd t223 x12_1)] rfl mapz ?_; (with_reducible refine (bits_OnesCount.calls (rd t223 x12_1) t227 _ A11.out).mono ?_); rintro e w' ⟨rfl, ⟨nd, rfl⟩⟩; refine ⟨_, rfl, ?_⟩) | ((with_reducible refine gate_builtin (b := .append) (xs := #[.tmp 23, .tmp 24]) rfl ?_); at_builtin; refine Kd.R_append (Kd.int .i64) (w0 := w) w.heap.size rfl (.tmp 23) (.tmp 24) 26 3 (.int .i64 0) 8 rfl Tryd.underlying26 info3 rfl (by decide) (by omega) u5 x5_1 0 [.int .i64 0] (fun _ => True) (fun _ => False) rfl rfl ?aP (fun _ hk => hk.elim) ?aF ?aO ?aB ?aS ?aL ?_; (case aP => exact rfl); (case aB => exact bel); (case aF => exact (fun _ _ => trivial)); (case aO => exact (ownx HO_5)); (case aS => exact (below_size bel)); (case aL => have := LMc13.out; omega); intro v229 w14 ho hb hg hat; rw [← Ny228.out] at ho; have n0_ := Aside0.mk (Kd.R_over' (ownx HO_10) (Kd.R_typed (ownx HO_5)) (by decide) hg); have n1_ := Aside0.mk (blk_grown (g := gb222) (o := .cells #[.int .i64 a0_0, .slice A0_1 l0_1.length c0_1, .slice A0_2 l0_2.length c0_2] 54 (0, 0)) blkz hg (Kd.R_ne HO_5.out BK222.out (by decide))); have n2_ := Aside0.mk (hb); have n3_ := Aside0.mk (ho); clear HO_10; clear BK222; clear HB; clear HO_5; have HO_10 := n0_; have BK222 := n1_; have HB := n2_; have HO230 := n3_; clear n0_ n1_ n2_ n3_; clear ho hb hg hat))
        go_roundg k1
        case measure => have := HK1.out; omega
        case rel => exact ⟨(y228), (wrap64 (x12_1 + 1)), rsz, H', ⟨by have := HK1.out; omega⟩, ⟨by (with_reducible repeat (first | apply Kd.R_alloc | apply Kd.R_drewN | apply Kd.R_drew)); exact HO230.out⟩, ⟨by (with_reducible repeat (first | apply Kd.R_alloc | apply Kd.R_drewN | apply Kd.R_drew)); exact HO_10.out⟩, ⟨blkz⟩, ⟨bel⟩⟩
       ·
        rw [if_neg c13] at H
        exact absurd H (by simp)
      ·
       rw [if_neg c12] at H
       have c12b0 : (t227 == 0) = false := beq_eq_false_iff_ne.mpr c12
       have c12b1 : (t227 != 0) = true := bne_iff_ne.mpr c12
       by_cases c15 : t227 = 1
       ·
        rw [if_pos c15] at H
        have c15b0 : (t227 == 1) = true := beq_iff_eq.mpr c15
        have c15b1 : (t227 != 1) = false := bne_eq_false_iff_eq.mpr c15
        clear c15
        replace H := Option.bind_eq_some_iff.mp H
        obtain ⟨t231, A160, H⟩ := H
        try dsimp only at H
        have A16 := Aside0.mk A160
        clear A160
        by_cases c17 : x5_1.length < 17592186044416
        ·
         rw [if_pos c17] at H
         have LMc17 := Aside0.mk c17
         clear c17
         obtain ⟨y232, hy232⟩ : ∃ y_ : List Int, y_ = (x5_1 ++ [t231]) := ⟨_, rfl⟩
         replace H : (feed_grid_live.l0 k1 y232 t223 (t223.length : Int) (wrap64 (x12_1 + 1))) = some r := by first | (rw [hy232]; with_reducible exact H) | (have H2_ := (Option.bind_some _ _).symm.trans H; rw [hy232]; with_reducible exact H2_) | (have H2_ := (Option.bind_some _ _).symm.trans H; with_reducible exact H2_) | with_reducible exact H | (rw [hy232]; exact H) | exact H
         have Ny232 := Aside0.mk hy232
         clear hy232
         have H' := Aside0.mk H
         clear H
         have p226 : 0 ≤ (x12_1 : Int) := of_decide_eq_true asz
         have q226 : x12_1 < (t223.length : Int) := of_decide_eq_true asz
         obtain ⟨ad226, e226, hx226_0⟩ := Kd.at_int (Kd.R_reads' HO_10.out).2.2 x12_1 p226 q226
         cases e226
         replace p226 := eq_true p226
         replace q226 := eq_true q226
         go_wp2_with (first | ((with_reducible refine gate_callee (f := 61) rfl ?_); refine goesL_ (some 17) rfl rfl Tryd.func61 (by kernel_rfl) rfl #[.int .u64 (rd t223 x12_1)] rfl mapz ?_; (with_reducible refine (bits_OnesCount.calls (rd t223 x12_1) t227 _ A11.out).mono ?_); rintro e w' ⟨rfl, ⟨nd, rfl⟩⟩; refine ⟨_, rfl, ?_⟩) | ((with_reducible refine gate_callee (f := 60) rfl ?_); refine goesL_ (some 30) rfl rfl Tryd.func60 (by kernel_rfl) rfl #[.int .u64 (rd t223 x12_1)] rfl mapz ?_; (with_reducible refine (bits_TrailingZeros.calls (rd t223 x12_1) t231 _ (tbz HT) A16.out).mono ?_); rintro e w' ⟨rfl, ⟨nd, rfl⟩⟩; refine ⟨_, rfl, ?_⟩) | ((with_reducible refine gate_builtin (b := .append) (xs := #[.tmp 28, .tmp 31]) rfl ?_); at_builtin; refine Kd.R_append (Kd.int .i64) (w0 := w) w.heap.size rfl (.tmp 28) (.tmp 31) 26 3 (.int .i64 0) 8 rfl Tryd.underlying26 info3 rfl (by decide) (by omega) u5 x5_1 t231 [.int .i64 t231] (fun _ => True) (fun _ => False) rfl rfl ?aP (fun _ hk => hk.elim) ?aF ?aO ?aB ?aS ?aL ?_; (case aP => exact rfl); (case aB => exact bel); (case aF => exact (fun _ _ => trivial)); (case aO => exact (ownx HO_5)); (case aS => exact (below_size bel)); (case aL => have := LMc17.out; omega); intro v233 w18 ho hb hg hat; rw [← Ny232.out] at ho; have n0_ := Aside0.mk (Kd.R_over' (ownx HO_10) (Kd.R_typed (ownx HO_5)) (by decide) hg); have n1_ := Aside0.mk (blk_grown (g := gb222) (o := .cells #[.int .i64 a0_0, .slice A0_1 l0_1.length c0_1, .slice A0_2 l0_2.length c0_2] 54 (0, 0)) blkz hg (Kd.R_ne HO_5.out BK222.out (by decide))); have n2_ := Aside0.mk (hb); have n3_ := Aside0.mk (ho); clear HO_10; clear BK222; clear HB; clear HO_5; have HO_10 := n0_; have BK222 := n1_; have HB := n2_; have HO234 := n3_; clear n0_ n1_ n2_ n3_; clear ho hb hg hat))
         go_roundg k1
         case measure => have := HK1.out; omega
         case rel => exact ⟨(y232), (wrap64 (x12_1 + 1)), rsz, H', ⟨by have := HK1.out; omega⟩, ⟨by (with_reducible repeat (first | apply Kd.R_alloc | apply Kd.R_drewN | apply Kd.R_drew)); exact HO234.out⟩, ⟨by (with_reducible repeat (first | apply Kd.R_alloc | apply Kd.R_drewN | apply Kd.R_drew)); exact HO_10.out⟩, ⟨blkz⟩, ⟨bel⟩⟩
        ·
         rw [if_neg c17] at H
         exact absurd H (by simp)
       ·
        rw [if_neg c15] at H
        have c15b0 : (t227 == 1) = false := beq_eq_false_iff_ne.mpr c15
        have c15b1 : (t227 != 1) = true := bne_iff_ne.mpr c15
        by_cases c19 : x5_1.length < 17592186044416
        ·
         rw [if_pos c19] at H
         have LMc19 := Aside0.mk c19
         clear c19
         obtain ⟨y235, hy235⟩ : ∃ y_ : List Int, y_ = (x5_1 ++ [(-1)]) := ⟨_, rfl⟩
         replace H : (feed_grid_live.l0 k1 y235 t223 (t223.length : Int) (wrap64 (x12_1 + 1))) = some r := by first | (rw [hy235]; with_reducible exact H) | (have H2_ := (Option.bind_some _ _).symm.trans H; rw [hy235]; with_reducible exact H2_) | (have H2_ := (Option.bind_some _ _).symm.trans H; with_reducible exact H2_) | with_reducible exact H | (rw [hy235]; exact H) | exact H
         have Ny235 := Aside0.mk hy235
         clear hy235
         have H' := Aside0.mk H
         clear H
         have p226 : 0 ≤ (x12_1 : Int) := of_decide_eq_true asz
         have q226 : x12_1 < (t223.length : Int) := of_decide_eq_true asz
         obtain ⟨ad226, e226, hx226_0⟩ := Kd.at_int (Kd.R_reads' HO_10.out).2.2 x12_1 p226 q226
         cases e226
         replace p226 := eq_true p226
         replace q226 := eq_true q226
         go_wp2_with (first | ((with_reducible refine gate_callee (f := 61) rfl ?_); refine goesL_ (some 17) rfl rfl Tryd.func61 (by kernel_rfl) rfl #[.int .u64 (rd t223 x12_1)] rfl mapz ?_; (with_reducible refine (bits_OnesCount.calls (rd t223 x12_1) t227 _ A11.out).mono ?_); rintro e w' ⟨rfl, ⟨nd, rfl⟩⟩; refine ⟨_, rfl, ?_⟩) | ((with_reducible refine gate_builtin (b := .append) (xs := #[.tmp 18, .tmp 19]) rfl ?_); at_builtin; refine Kd.R_append (Kd.int .i64) (w0 := w) w.heap.size rfl (.tmp 18) (.tmp 19) 26 3 (.int .i64 0) 8 rfl Tryd.underlying26 info3 rfl (by decide) (by omega) u5 x5_1 (-1) [.int .i64 (-1)] (fun _ => True) (fun _ => False) rfl rfl ?aP (fun _ hk => hk.elim) ?aF ?aO ?aB ?aS ?aL ?_; (case aP => exact rfl); (case aB => exact bel); (case aF => exact (fun _ _ => trivial)); (case aO => exact (ownx HO_5)); (case aS => exact (below_size bel)); (case aL => have := LMc19.out; omega); intro v236 w20 ho hb hg hat; rw [← Ny235.out] at ho; have n0_ := Aside0.mk (Kd.R_over' (ownx HO_10) (Kd.R_typed (ownx HO_5)) (by decide) hg); have n1_ := Aside0.mk (blk_grown (g := gb222) (o := .cells #[.int .i64 a0_0, .slice A0_1 l0_1.length c0_1, .slice A0_2 l0_2.length c0_2] 54 (0, 0)) blkz hg (Kd.R_ne HO_5.out BK222.out (by decide))); have n2_ := Aside0.mk (hb); have n3_ := Aside0.mk (ho); clear HO_10; clear BK222; clear HB; clear HO_5; have HO_10 := n0_; have BK222 := n1_; have HB := n2_; have HO237 := n3_; clear n0_ n1_ n2_ n3_; clear ho hb hg hat))
         go_roundg k1
         case measure => have := HK1.out; omega
         case rel => exact ⟨(y235), (wrap64 (x12_1 + 1)), rsz, H', ⟨by have := HK1.out; omega⟩, ⟨by (with_reducible repeat (first | apply Kd.R_alloc | apply Kd.R_drewN | apply Kd.R_drew)); exact HO237.out⟩, ⟨by (with_reducible repeat (first | apply Kd.R_alloc | apply Kd.R_drewN | apply Kd.R_drew)); exact HO_10.out⟩, ⟨blkz⟩, ⟨bel⟩⟩
        ·
         rw [if_neg c19] at H
         exact absurd H (by simp)
     ·
      rw [if_neg c10] at H
      exact absurd H (by simp)
    ·
     rw [if_neg c9] at H
     exact absurd H (by simp)
   ·
    rw [if_neg c8] at H
    have c8b0 : decide (x12_1 < (t223.length : Int)) = false := decide_eq_false c8
    clear c8
    obtain rfl := Option.some.inj H
    go_wp2
    go_ret
    exact ⟨_, ezz, by (with_reducible repeat (first | apply Kd.R_alloc | apply Kd.R_drewN | apply Kd.R_drew)); exact HO_5.out, bel⟩

/-! ### feed_grid_right: function 44 -/
def feed_grid_right.f (k : Nat) (a0_0 : Int) (l0_1 : List (S47)) (l0_2 : List (S49)) (a1 : Int) : Option (Bool) := (feed_grid_live.f k a0_0 l0_1 l0_2 a1).bind fun t239 => ((slices_Contains_int_int.f k t239 (-1)).bind fun t242 => (some (!t242)))
theorem feed_grid_right.mono : ∀ a0 a1 a2 a3 k, LeO (feed_grid_right.f k a0 a1 a2 a3) (feed_grid_right.f (k + 1) a0 a1 a2 a3) := by
 intro a0 a1 a2 a3 k
 unfold feed_grid_right.f
 repeat' first
   | (with_reducible exact feed_grid_live.mono _ _ _ _ _)
   | (with_reducible exact slices_Contains_int_int.mono _ _ _)
   | (with_reducible exact LeO.refl _)
   | (with_reducible exact LeO.none _)
   | (with_reducible refine LeO.ite ?_ ?_)
   | (with_reducible refine LeO.bind ?_ (fun _ => ?_))
   | exact feed_grid_live.mono _ _ _ _ _
   | exact slices_Contains_int_int.mono _ _ _
   | exact LeO.none _
   | refine LeO.ite ?_ ?_
   | refine LeO.bind ?_ (fun _ => ?_)
set_option maxHeartbeats 8000000 in
set_option maxRecDepth 100000 in
theorem feed_grid_right.calls (k : Nat) (a0_0 : Int) (A0_1 : Option Addr) (c0_1 : Nat) (l0_1 : List (S47)) (A0_2 : Option Addr) (c0_2 : Nat) (l0_2 : List (S49)) (a1 : Int) (r : Bool) (w : World) (hr0_1 : Kd.C k47 w A0_1 l0_1.length l0_1) (hc0_1 : l0_1.length ≤ c0_1) (hr0_2 : Kd.C k49 w A0_2 l0_2.length l0_2) (hc0_2 : l0_2.length ≤ c0_2) (hT : Tab.Tabs w) (h : feed_grid_right.f k a0_0 l0_1 l0_2 a1 = some r) :
  Calls Tryd.prog 44 #[.agg #[.int .i64 a0_0, .slice A0_1 l0_1.length c0_1, .slice A0_2 l0_2.length c0_2], .int .i64 a1] w fun e w' => e = .returned (.bool r) ∧ Below w.heap.size w w' := by
 have HT := Aside0.mk hT
 clear hT
 have hu54 := Tryd.underlying54
 have HR0_1 := Aside0.mk hr0_1
 have HC0_1 := Aside0.mk hc0_1
 clear hr0_1 hc0_1
 have HR0_2 := Aside0.mk hr0_2
 have HC0_2 := Aside0.mk hc0_2
 clear hr0_2 hc0_2
 have HB := Aside0.mk (Below.refl w.heap.size w)
 have H : ((feed_grid_live.f k a0_0 l0_1 l0_2 a1).bind fun t239 => ((slices_Contains_int_int.f k t239 (-1)).bind fun t242 => (some (!t242)))) = some r := h
 clear h
 replace H := Option.bind_eq_some_iff.mp H
 obtain ⟨t239, A30, H⟩ := H
 try dsimp only at H
 have A3 := Aside0.mk A30
 clear A30
 replace H := Option.bind_eq_some_iff.mp H
 obtain ⟨t242, A40, H⟩ := H
 try dsimp only at H
 have A4 := Aside0.mk A40
 clear A40
 obtain rfl := Option.some.inj H
 go_enter Tryd.func44, Tryd.ntmps44
 go_wp2_with (first | ((with_reducible refine gate_dst (N := 2) rfl ?_); refine box_event ?hg (N := 2) ?hd (cs := #[.int .i64 a0_0, .slice A0_1 l0_1.length c0_1, .slice A0_2 l0_2.length c0_2]) (t := 54) ?hr ?_; (case hd => rfl); (case hg => rfl); (case hr => first | (go_simp; done) | (go_simp; rfl)); intro gb238 hg w5 hbox hb; have BK238 := Aside0.mk (hbox); have GW238 := bsz (w := w) hg; have GE238 := GW238; replace HB := Aside0.mk (below_step bel hb); clear hb hbox hg; obtain ⟨hcz6_0, hcz6_1, hcz6_2⟩ := bc3 BK238.out) | ((with_reducible refine gate_callee (f := 63) rfl ?_); refine goesL_ (some 7) rfl rfl Tryd.func63 (by kernel_rfl) rfl #[.agg #[.int .i64 a0_0, .slice A0_1 l0_1.length c0_1, .slice A0_2 l0_2.length c0_2], .int .i64 a1] rfl mapz ?_; (with_reducible refine (feed_grid_live.calls k a0_0 _ _ l0_1 _ _ l0_2 a1 t239 _ (cbz HR0_1) HC0_1.out (cbz HR0_2) HC0_2.out (tbz HT) A3.out).mono ?_); rintro e w7 ⟨v240, rfl, ho0, hb⟩; refine ⟨_, rfl, ?_⟩; have HO241 := Aside0.mk (Kd.R_lower ho0 (below_size bel)); replace BK238 := Aside0.mk (blk_below (g := gb238) blkz hb); replace HB := Aside0.mk (below_step bel hb); (try clear hb); (try clear hb2); (try clear hk); (try clear hi); (try clear ho0); obtain ⟨Ao8, co8, eo8⟩ := Kd.R_slice HO241.out; subst eo8) | ((with_reducible refine gate_callee (f := 33) rfl ?_); refine goesL_ (some 8) rfl rfl Tryd.func33 (by kernel_rfl) rfl #[.slice Ao8 t239.length co8, .int .i64 (-1)] rfl mapz ?_; (with_reducible refine (slices_Contains_int_int.calls k _ _ t239 (-1) t242 _ ?side1 ?side2 A4.out).mono ?_); (case side1 => repeat (first | exact (Kd.R_reads' HO241.out).2.2 | (with_reducible refine Kd.C_alloc ?_ _) | (with_reducible refine Kd.C_drewN ?_ _) | (with_reducible refine Kd.C_drew ?_))); (case side2 => exact (Kd.R_reads' HO241.out).2.1); rintro e w' ⟨rfl, ⟨nd, rfl⟩⟩; refine ⟨_, rfl, ?_⟩))
 go_ret
 exact ⟨ezz, bel⟩

/-! ### feed_States: function 21 -/
def feed_States.l0 : Nat → Int → Int → Int → Int → List (S47) → List (S49) → Option (Int × Int)
 | 0, _, _, _, _, _, _ => none
 | k + 1, x6, x17, x18, x253000, x253001, x253002 => if x18 < x17 then ((feed_grid_right.f k x253000 x253001 x253002 x18).bind fun t254 => (if t254 = true then (feed_States.l0 k (wrap64 (x6 + 1)) x17 (wrap64 (x18 + 1)) x253000 x253001 x253002) else (feed_States.l0 k x6 x17 (wrap64 (x18 + 1)) x253000 x253001 x253002))) else (some (x6, 0))
def feed_States.f (k : Nat) (a0_0 : Int) (l0_1 : List (S47)) (l0_2 : List (S49)) : Option (Int × Int) := (feed_open.f a0_0 l0_1 l0_2 0).bind fun bt244 => (if bt244.2 = 0 then ((feed_grid_all.f bt244.1 l0_1 l0_2).bind fun t253 => (feed_States.l0 k 0 t253 0 bt244.1 l0_1 l0_2)) else (some (0, bt244.2)))
theorem feed_States.mono_l : ∀ k, (∀ y0 y1 y2 y3 y4 y5, LeO (feed_States.l0 k y0 y1 y2 y3 y4 y5) (feed_States.l0 (k + 1) y0 y1 y2 y3 y4 y5))
 | 0 => fun _ _ _ _ _ _ r h => by simp [feed_States.l0] at h
 | k + 1 => by
  have ih0 := feed_States.mono_l k
  ·
   intro y0 y1 y2 y3 y4 y5
   unfold feed_States.l0
   repeat' first
   | (with_reducible exact ih0 _ _ _ _ _ _)
   | (with_reducible exact feed_grid_right.mono _ _ _ _ _)
   | (with_reducible exact LeO.refl _)
   | (with_reducible exact LeO.none _)
   | (with_reducible refine LeO.ite ?_ ?_)
   | (with_reducible refine LeO.bind ?_ (fun _ => ?_))
   | exact ih0 _ _ _ _ _ _
   | exact feed_grid_right.mono _ _ _ _ _
   | exact LeO.none _
   | refine LeO.ite ?_ ?_
   | refine LeO.bind ?_ (fun _ => ?_)
theorem feed_States.mono : ∀ a0 a1 a2 k, LeO (feed_States.f k a0 a1 a2) (feed_States.f (k + 1) a0 a1 a2) := by
 intro a0 a1 a2 k
 have ih0 := feed_States.mono_l k
 unfold feed_States.f
 repeat' first
   | (with_reducible exact ih0 _ _ _ _ _ _)
   | (with_reducible exact feed_grid_right.mono _ _ _ _ _)
   | (with_reducible exact LeO.refl _)
   | (with_reducible exact LeO.none _)
   | (with_reducible refine LeO.ite ?_ ?_)
   | (with_reducible refine LeO.bind ?_ (fun _ => ?_))
   | exact ih0 _ _ _ _ _ _
   | exact feed_grid_right.mono _ _ _ _ _
   | exact LeO.none _
   | refine LeO.ite ?_ ?_
   | refine LeO.bind ?_ (fun _ => ?_)
set_option maxHeartbeats 8000000 in
set_option maxRecDepth 100000 in
theorem feed_States.calls (k : Nat) (a0_0 : Int) (A0_1 : Option Addr) (c0_1 : Nat) (l0_1 : List (S47)) (A0_2 : Option Addr) (c0_2 : Nat) (l0_2 : List (S49)) (r1 : Int) (r2 : Int) (w : World) (hr0_1 : Kd.C k47 w A0_1 l0_1.length l0_1) (hc0_1 : l0_1.length ≤ c0_1) (hr0_2 : Kd.C k49 w A0_2 l0_2.length l0_2) (hc0_2 : l0_2.length ≤ c0_2) (hT : Tab.Tabs w) (h : feed_States.f k a0_0 l0_1 l0_2 = some (r1, r2)) :
  Calls Tryd.prog 21 #[.agg #[.int .i64 a0_0, .slice A0_1 l0_1.length c0_1, .slice A0_2 l0_2.length c0_2]] w fun e w' => e = .returned (.tuple #[.int .i64 r1, .int .i64 r2]) ∧ Below w.heap.size w w' := by
 have HT := Aside0.mk hT
 clear hT
 have hu25 := Tryd.underlying25
 have hu54 := Tryd.underlying54
 have HR0_1 := Aside0.mk hr0_1
 have HC0_1 := Aside0.mk hc0_1
 clear hr0_1 hc0_1
 have HR0_2 := Aside0.mk hr0_2
 have HC0_2 := Aside0.mk hc0_2
 clear hr0_2 hc0_2
 have HB := Aside0.mk (Below.refl w.heap.size w)
 have H : ((feed_open.f a0_0 l0_1 l0_2 0).bind fun bt244 => (if bt244.2 = 0 then ((feed_grid_all.f bt244.1 l0_1 l0_2).bind fun t253 => (feed_States.l0 k 0 t253 0 bt244.1 l0_1 l0_2)) else (some (0, bt244.2)))) = some (r1, r2) := h
 clear h
 replace H := Option.bind_eq_some_iff.mp H
 obtain ⟨⟨t244, t251⟩, A20, H⟩ := H
 try dsimp only at H
 have A2 := Aside0.mk A20
 clear A20
 by_cases c3 : t251 = 0
 ·
  rw [if_pos c3] at H
  have c3b0 : (t251 == 0) = true := beq_iff_eq.mpr c3
  have c3b1 : (t251 != 0) = false := bne_eq_false_iff_eq.mpr c3
  clear c3
  replace H := Option.bind_eq_some_iff.mp H
  obtain ⟨t253, A40, H⟩ := H
  try dsimp only at H
  have A4 := Aside0.mk A40
  clear A40
  have H' := Aside0.mk H
  clear H
  go_enter Tryd.func21, Tryd.ntmps21
  go_wp2_with (first | ((with_reducible refine gate_dst (N := 1) rfl ?_); refine box_event ?hg (N := 1) ?hd (cs := #[.int .i64 a0_0, .slice A0_1 l0_1.length c0_1, .slice A0_2 l0_2.length c0_2]) (t := 25) ?hr ?_; (case hd => rfl); (case hg => rfl); (case hr => first | (go_simp; done) | (go_simp; rfl)); intro gb243 hg w5 hbox hb; have BK243 := Aside0.mk (hbox); have GW243 := bsz (w := w) hg; have GE243 := GW243; replace HB := Aside0.mk (below_step bel hb); clear hb hbox hg; obtain ⟨hcz6_0, hcz6_1, hcz6_2⟩ := bc3 BK243.out) | ((with_reducible refine gate_callee (f := 37) rfl ?_); refine goesL_ (some 10) rfl rfl Tryd.func37 (by kernel_rfl) rfl #[.agg #[.int .i64 a0_0, .slice A0_1 l0_1.length c0_1, .slice A0_2 l0_2.length c0_2], .int .i64 0] rfl mapz ?_; (with_reducible refine (feed_open.calls a0_0 _ _ l0_1 _ _ l0_2 0 t244 t251 _ (cbz HR0_1) HC0_1.out (cbz HR0_2) HC0_2.out A2.out).mono ?_); rintro e w7 ⟨rfl, hb⟩; refine ⟨_, rfl, ?_⟩; replace BK243 := Aside0.mk (blk_below (g := gb243) blkz hb); replace HB := Aside0.mk (below_step bel hb); clear hb) | ((with_reducible refine gate_dst (N := 4) rfl ?_); refine box_event ?hg (N := 4) ?hd (cs := #[.int .i64 0, .slice none 0 0, .slice none 0 0]) (t := 54) ?hr ?_; (case hd => rfl); (case hg => rfl); (case hr => first | (go_simp; done) | (go_simp; rfl)); intro gb252 hg w8 hbox hb; have BK252 := Aside0.mk (hbox); have GW252 := bsz (w := w) hg; have GE252 := GW252; have NB243_252 := neL (g := gb243) hg; have NB252_243 := neR (g := gb243) hg; replace BK243 := Aside0.mk (blk_below (g := gb243) blkz hb); replace HB := Aside0.mk (below_step bel hb); clear hb hbox hg; have hnb9 := NB252_243.out; have hnc9 := NB243_252.out; obtain ⟨hcz10_0, hcz10_1, hcz10_2⟩ := bc3 BK252.out; obtain ⟨hfz10_0, hfz10_1, hfz10_2⟩ := bf3 BK252.out) | ((with_reducible refine gate_callee (f := 26) rfl ?_); refine goesL_ (some 17) rfl rfl Tryd.func26 (by kernel_rfl) rfl #[.agg #[.int .i64 t244, .slice A0_1 l0_1.length c0_1, .slice A0_2 l0_2.length c0_2]] rfl mapz ?_; (with_reducible refine (feed_grid_all.calls t244 _ _ l0_1 _ _ l0_2 t253 _ (cbz HR0_1) HC0_1.out (cbz HR0_2) HC0_2.out A4.out).mono ?_); rintro e w11 ⟨rfl, hb⟩; refine ⟨_, rfl, ?_⟩; replace BK243 := Aside0.mk (blk_below (g := gb243) (o := .cells #[.int .i64 a0_0, .slice A0_1 l0_1.length c0_1, .slice A0_2 l0_2.length c0_2] 25 (0, 0)) (by (with_reducible repeat (first | refine blk_drewN ?_ _ | refine blk_drew ?_ | refine blk_alloc ?_ _)); refine blk_far ?_ NB243_252.out _; (with_reducible repeat (first | refine blk_drewN ?_ _ | refine blk_drew ?_ | refine blk_alloc ?_ _)); refine blk_far ?_ NB243_252.out _; (with_reducible repeat (first | refine blk_drewN ?_ _ | refine blk_drew ?_ | refine blk_alloc ?_ _)); refine blk_far ?_ NB243_252.out _; (with_reducible repeat (first | refine blk_drewN ?_ _ | refine blk_drew ?_ | refine blk_alloc ?_ _)); exact BK243.out) hb); replace BK252 := Aside0.mk (blk_below (g := gb252) (o := .cells #[.int .i64 t244, .slice A0_1 l0_1.length c0_1, .slice A0_2 l0_2.length c0_2] 54 (0, 0)) (by (with_reducible repeat (first | refine blk_drewN ?_ _ | refine blk_drew ?_ | refine blk_alloc ?_ _)); refine blk_put (cs := #[.int .i64 t244, .slice A0_1 l0_1.length c0_1, .slice none 0 0]) ?_ 2 _ rfl; (with_reducible repeat (first | refine blk_drewN ?_ _ | refine blk_drew ?_ | refine blk_alloc ?_ _)); refine blk_put (cs := #[.int .i64 t244, .slice none 0 0, .slice none 0 0]) ?_ 1 _ rfl; (with_reducible repeat (first | refine blk_drewN ?_ _ | refine blk_drew ?_ | refine blk_alloc ?_ _)); refine blk_put (cs := #[.int .i64 0, .slice none 0 0, .slice none 0 0]) ?_ 0 _ rfl; (with_reducible repeat (first | refine blk_drewN ?_ _ | refine blk_drew ?_ | refine blk_alloc ?_ _)); exact BK252.out) hb); replace HB := Aside0.mk (below_step bel hb); clear hb))
  go_loopg [6, 18] k (fun kq v6 v18 w' => ∃ (x6_1 : Int) (x18_1 : Int), v6 = .int .i64 x6_1 ∧ v18 = .int .i64 x18_1 ∧ Aside0 (feed_States.l0 kq x6_1 t253 x18_1 t244 l0_1 l0_2 = some (r1, r2)) ∧ Aside0 (kq ≤ k) ∧ Aside0 (w'.heap[gb243]? = some (.cells #[.int .i64 a0_0, (.slice A0_1 l0_1.length c0_1), (.slice A0_2 l0_2.length c0_2)] 25 (0, 0))) ∧ Aside0 (w'.heap[gb252]? = some (.cells #[.int .i64 t244, (.slice A0_1 l0_1.length c0_1), (.slice A0_2 l0_2.length c0_2)] 54 (0, 0))) ∧ Aside0 (Below w.heap.size w w'))
  case atStart => exact ⟨(0), (0), rsz, rsz, H', ⟨Nat.le_refl _⟩, ⟨blkz⟩, ⟨blkz⟩, ⟨bel⟩⟩
  case round =>
   clear H'
   (try clear c2); (try clear p2); (try clear c3); (try clear c3b0); (try clear c3b1); (try clear c9); (try clear hcz10_0); (try clear hcz10_1); (try clear hcz10_2); (try clear hcz6_0); (try clear hcz6_1); (try clear hcz6_2); (try clear hfz10_0); (try clear hfz10_1); (try clear hfz10_2); (try clear hfz6_0); (try clear hfz6_1); (try clear hfz6_2)
   obtain ⟨x6_1, x18_1, rfl, rfl, HA, HK1, BK243, BK252, HB⟩ := hrel
   cases gk with
   | zero => exact absurd HA.out (by simp [feed_States.l0])
   | succ k1 =>
    have H := HA.out
    clear HA
    simp only [feed_States.l0] at H
    by_cases c12 : x18_1 < t253
    ·
     rw [if_pos c12] at H
     have c12b0 : decide (x18_1 < t253) = true := decide_eq_true c12
     clear c12
     replace H := Option.bind_eq_some_iff.mp H
     obtain ⟨t254, A130, H⟩ := H
     try dsimp only at H
     have A13 := Aside0.mk A130
     clear A130
     by_cases c14 : t254 = true
     ·
      subst c14
      rw [if_pos rfl] at H
      have H' := Aside0.mk H
      clear H
      have hnb15 := NB252_243.out
      have hnc15 := NB243_252.out
      obtain ⟨hcz16_0, hcz16_1, hcz16_2⟩ := bc3 BK252.out
      obtain ⟨hfz16_0, hfz16_1, hfz16_2⟩ := bf3 BK252.out
      go_wp2_with (first | ((with_reducible refine gate_callee (f := 44) rfl ?_); refine goesL_ (some 23) rfl rfl Tryd.func44 (by kernel_rfl) rfl #[.agg #[.int .i64 t244, .slice A0_1 l0_1.length c0_1, .slice A0_2 l0_2.length c0_2], .int .i64 x18_1] rfl mapz ?_; (with_reducible refine (feed_grid_right.calls k1 t244 _ _ l0_1 _ _ l0_2 x18_1 true _ (cbz HR0_1) HC0_1.out (cbz HR0_2) HC0_2.out (tbz HT) A13.out).mono ?_); rintro e w17 ⟨rfl, hb⟩; refine ⟨_, rfl, ?_⟩; replace BK243 := Aside0.mk (blk_below (g := gb243) blkz hb); replace BK252 := Aside0.mk (blk_below (g := gb252) blkz hb); replace HB := Aside0.mk (below_step bel hb); clear hb))
      go_roundg k1
      case measure => have := HK1.out; omega
      case rel => exact ⟨(wrap64 (x6_1 + 1)), (wrap64 (x18_1 + 1)), rsz, rsz, H', ⟨by have := HK1.out; omega⟩, ⟨blkz⟩, ⟨blkz⟩, ⟨bel⟩⟩
     ·
      replace c14 := Bool.eq_false_iff.mpr c14
      subst c14
      rw [if_neg (show ¬ (false = true) by decide)] at H
      have H' := Aside0.mk H
      clear H
      have hnb18 := NB252_243.out
      have hnc18 := NB243_252.out
      obtain ⟨hcz19_0, hcz19_1, hcz19_2⟩ := bc3 BK252.out
      obtain ⟨hfz19_0, hfz19_1, hfz19_2⟩ := bf3 BK252.out
      go_wp2_with (first | ((with_reducible refine gate_callee (f := 44) rfl ?_); refine goesL_ (some 23) rfl rfl Tryd.func44 (by kernel_rfl) rfl #[.agg #[.int .i64 t244, .slice A0_1 l0_1.length c0_1, .slice A0_2 l0_2.length c0_2], .int .i64 x18_1] rfl mapz ?_; (with_reducible refine (feed_grid_right.calls k1 t244 _ _ l0_1 _ _ l0_2 x18_1 false _ (cbz HR0_1) HC0_1.out (cbz HR0_2) HC0_2.out (tbz HT) A13.out).mono ?_); rintro e w20 ⟨rfl, hb⟩; refine ⟨_, rfl, ?_⟩; replace BK243 := Aside0.mk (blk_below (g := gb243) blkz hb); replace BK252 := Aside0.mk (blk_below (g := gb252) blkz hb); replace HB := Aside0.mk (below_step bel hb); clear hb))
      go_roundg k1
      case measure => have := HK1.out; omega
      case rel => exact ⟨(x6_1), (wrap64 (x18_1 + 1)), rsz, rsz, H', ⟨by have := HK1.out; omega⟩, ⟨blkz⟩, ⟨blkz⟩, ⟨bel⟩⟩
    ·
     rw [if_neg c12] at H
     have c12b0 : decide (x18_1 < t253) = false := decide_eq_false c12
     clear c12
     simp only [Option.some.injEq, Prod.mk.injEq] at H
     obtain ⟨rfl, rfl⟩ := H
     go_wp2
     go_ret2
     exact ⟨ezz, bel⟩
 ·
  rw [if_neg c3] at H
  have c3b0 : (t251 == 0) = false := beq_eq_false_iff_ne.mpr c3
  have c3b1 : (t251 != 0) = true := bne_iff_ne.mpr c3
  simp only [Option.some.injEq, Prod.mk.injEq] at H
  obtain ⟨rfl, rfl⟩ := H
  go_enter Tryd.func21, Tryd.ntmps21
  go_wp2_with (first | ((with_reducible refine gate_dst (N := 1) rfl ?_); refine box_event ?hg (N := 1) ?hd (cs := #[.int .i64 a0_0, .slice A0_1 l0_1.length c0_1, .slice A0_2 l0_2.length c0_2]) (t := 25) ?hr ?_; (case hd => rfl); (case hg => rfl); (case hr => first | (go_simp; done) | (go_simp; rfl)); intro gb243 hg w21 hbox hb; have BK243 := Aside0.mk (hbox); have GW243 := bsz (w := w) hg; have GE243 := GW243; replace HB := Aside0.mk (below_step bel hb); clear hb hbox hg; obtain ⟨hcz22_0, hcz22_1, hcz22_2⟩ := bc3 BK243.out) | ((with_reducible refine gate_callee (f := 37) rfl ?_); refine goesL_ (some 10) rfl rfl Tryd.func37 (by kernel_rfl) rfl #[.agg #[.int .i64 a0_0, .slice A0_1 l0_1.length c0_1, .slice A0_2 l0_2.length c0_2], .int .i64 0] rfl mapz ?_; (with_reducible refine (feed_open.calls a0_0 _ _ l0_1 _ _ l0_2 0 t244 t251 _ (cbz HR0_1) HC0_1.out (cbz HR0_2) HC0_2.out A2.out).mono ?_); rintro e w23 ⟨rfl, hb⟩; refine ⟨_, rfl, ?_⟩; replace BK243 := Aside0.mk (blk_below (g := gb243) blkz hb); replace HB := Aside0.mk (below_step bel hb); clear hb) | ((with_reducible refine gate_dst (N := 4) rfl ?_); refine box_event ?hg (N := 4) ?hd (cs := #[.int .i64 0, .slice none 0 0, .slice none 0 0]) (t := 54) ?hr ?_; (case hd => rfl); (case hg => rfl); (case hr => first | (go_simp; done) | (go_simp; rfl)); intro gb252 hg w24 hbox hb; have BK252 := Aside0.mk (hbox); have GW252 := bsz (w := w) hg; have GE252 := GW252; have NB243_252 := neL (g := gb243) hg; have NB252_243 := neR (g := gb243) hg; replace BK243 := Aside0.mk (blk_below (g := gb243) blkz hb); replace HB := Aside0.mk (below_step bel hb); clear hb hbox hg; have hnb25 := NB252_243.out; have hnc25 := NB243_252.out; obtain ⟨hcz26_0, hcz26_1, hcz26_2⟩ := bc3 BK252.out; obtain ⟨hfz26_0, hfz26_1, hfz26_2⟩ := bf3 BK252.out))
  go_ret2
  exact ⟨ezz, bel⟩

/-! ### dropperlaw05_First: function 8 -/
def dropperlaw05_First.f (k : Nat)  : Option (Bool) := (feed_Isolate.f k 3 (([(⟨0, 1⟩ : S47), (⟨1, 2⟩ : S47), (⟨0, 2⟩ : S47)] : List (S47))) (([(⟨0, 1⟩ : S49)] : List (S49))) 7 2).bind fun bt262 => ((feed_States.f k 2 (([(⟨0, 1⟩ : S47)] : List (S47))) (([(⟨0, 1⟩ : S49), (⟨1, 2⟩ : S49)] : List (S49)))).bind fun bt272 => (if bt262.2 = 0 then (if bt272.2 = 0 then (if (bt262.1.length : Int) = 2 then (some (bt272.1 == 1)) else (some false)) else (some false)) else (some false)))
theorem dropperlaw05_First.mono : ∀ k, LeO (dropperlaw05_First.f k ) (dropperlaw05_First.f (k + 1) ) := by
 intro  k
 unfold dropperlaw05_First.f
 repeat' first
   | (with_reducible exact feed_Isolate.mono _ _ _ _ _ _)
   | (with_reducible exact feed_States.mono _ _ _ _)
   | (with_reducible exact LeO.refl _)
   | (with_reducible exact LeO.none _)
   | (with_reducible refine LeO.ite ?_ ?_)
   | (with_reducible refine LeO.bind ?_ (fun _ => ?_))
   | exact feed_Isolate.mono _ _ _ _ _ _
   | exact feed_States.mono _ _ _ _
   | exact LeO.none _
   | refine LeO.ite ?_ ?_
   | refine LeO.bind ?_ (fun _ => ?_)
set_option maxHeartbeats 8000000 in
set_option maxRecDepth 100000 in
theorem dropperlaw05_First.calls (k : Nat)  (r : Bool) (w : World) (hT : Tab.Tabs w) (h : dropperlaw05_First.f k  = some r) :
  Calls Tryd.prog 8 #[] w fun e w' => e = .returned (.bool r) ∧ Below w.heap.size w w' := by
 have HT := Aside0.mk hT
 clear hT
 have hu47 := Tryd.underlying47
 have hu49 := Tryd.underlying49
 have hu25 := Tryd.underlying25
 have HB := Aside0.mk (Below.refl w.heap.size w)
 have H : ((feed_Isolate.f k 3 (([(⟨0, 1⟩ : S47), (⟨1, 2⟩ : S47), (⟨0, 2⟩ : S47)] : List (S47))) (([(⟨0, 1⟩ : S49)] : List (S49))) 7 2).bind fun bt262 => ((feed_States.f k 2 (([(⟨0, 1⟩ : S47)] : List (S47))) (([(⟨0, 1⟩ : S49), (⟨1, 2⟩ : S49)] : List (S49)))).bind fun bt272 => (if bt262.2 = 0 then (if bt272.2 = 0 then (if (bt262.1.length : Int) = 2 then (some (bt272.1 == 1)) else (some false)) else (some false)) else (some false)))) = some r := h
 clear h
 obtain ⟨y255, hy255⟩ : ∃ y_ : List (S47), y_ = (([(⟨0, 1⟩ : S47), (⟨1, 2⟩ : S47), (⟨0, 2⟩ : S47)] : List (S47))) := ⟨_, rfl⟩
 replace H : ((feed_Isolate.f k 3 y255 (([(⟨0, 1⟩ : S49)] : List (S49))) 7 2).bind fun bt262 => ((feed_States.f k 2 (([(⟨0, 1⟩ : S47)] : List (S47))) (([(⟨0, 1⟩ : S49), (⟨1, 2⟩ : S49)] : List (S49)))).bind fun bt272 => (if bt262.2 = 0 then (if bt272.2 = 0 then (if (bt262.1.length : Int) = 2 then (some (bt272.1 == 1)) else (some false)) else (some false)) else (some false)))) = some r := by first | (rw [hy255]; with_reducible exact H) | (have H2_ := (Option.bind_some _ _).symm.trans H; rw [hy255]; with_reducible exact H2_) | (have H2_ := (Option.bind_some _ _).symm.trans H; with_reducible exact H2_) | with_reducible exact H | (rw [hy255]; exact H) | exact H
 have Ny255 := Aside0.mk hy255
 clear hy255
 obtain ⟨y258, hy258⟩ : ∃ y_ : List (S49), y_ = (([(⟨0, 1⟩ : S49)] : List (S49))) := ⟨_, rfl⟩
 replace H : ((feed_Isolate.f k 3 y255 y258 7 2).bind fun bt262 => ((feed_States.f k 2 (([(⟨0, 1⟩ : S47)] : List (S47))) (([(⟨0, 1⟩ : S49), (⟨1, 2⟩ : S49)] : List (S49)))).bind fun bt272 => (if bt262.2 = 0 then (if bt272.2 = 0 then (if (bt262.1.length : Int) = 2 then (some (bt272.1 == 1)) else (some false)) else (some false)) else (some false)))) = some r := by first | (rw [hy258]; with_reducible exact H) | (have H2_ := (Option.bind_some _ _).symm.trans H; rw [hy258]; with_reducible exact H2_) | (have H2_ := (Option.bind_some _ _).symm.trans H; with_reducible exact H2_) | with_reducible exact H | (rw [hy258]; exact H) | exact H
 have Ny258 := Aside0.mk hy258
 clear hy258
 replace H := Option.bind_eq_some_iff.mp H
 obtain ⟨⟨t262, t265⟩, A10, H⟩ := H
 try dsimp only at H
 have A1 := Aside0.mk A10
 clear A10
 obtain ⟨y266, hy266⟩ : ∃ y_ : List (S47), y_ = (([(⟨0, 1⟩ : S47)] : List (S47))) := ⟨_, rfl⟩
 replace H : ((feed_States.f k 2 y266 (([(⟨0, 1⟩ : S49), (⟨1, 2⟩ : S49)] : List (S49)))).bind fun bt272 => (if t265 = 0 then (if bt272.2 = 0 then (if (t262.length : Int) = 2 then (some (bt272.1 == 1)) else (some false)) else (some false)) else (some false))) = some r := by first | (rw [hy266]; with_reducible exact H) | (have H2_ := (Option.bind_some _ _).symm.trans H; rw [hy266]; with_reducible exact H2_) | (have H2_ := (Option.bind_some _ _).symm.trans H; with_reducible exact H2_) | with_reducible exact H | (rw [hy266]; exact H) | exact H
 have Ny266 := Aside0.mk hy266
 clear hy266
 obtain ⟨y269, hy269⟩ : ∃ y_ : List (S49), y_ = (([(⟨0, 1⟩ : S49), (⟨1, 2⟩ : S49)] : List (S49))) := ⟨_, rfl⟩
 replace H : ((feed_States.f k 2 y266 y269).bind fun bt272 => (if t265 = 0 then (if bt272.2 = 0 then (if (t262.length : Int) = 2 then (some (bt272.1 == 1)) else (some false)) else (some false)) else (some false))) = some r := by first | (rw [hy269]; with_reducible exact H) | (have H2_ := (Option.bind_some _ _).symm.trans H; rw [hy269]; with_reducible exact H2_) | (have H2_ := (Option.bind_some _ _).symm.trans H; with_reducible exact H2_) | with_reducible exact H | (rw [hy269]; exact H) | exact H
 have Ny269 := Aside0.mk hy269
 clear hy269
 replace H := Option.bind_eq_some_iff.mp H
 obtain ⟨⟨t272, t273⟩, A20, H⟩ := H
 try dsimp only at H
 have A2 := Aside0.mk A20
 clear A20
 by_cases c3 : t265 = 0
 ·
  rw [if_pos c3] at H
  have c3b0 : (t265 == 0) = true := beq_iff_eq.mpr c3
  have c3b1 : (t265 != 0) = false := bne_eq_false_iff_eq.mpr c3
  clear c3
  by_cases c4 : t273 = 0
  ·
   rw [if_pos c4] at H
   have c4b0 : (t273 == 0) = true := beq_iff_eq.mpr c4
   have c4b1 : (t273 != 0) = false := bne_eq_false_iff_eq.mpr c4
   clear c4
   by_cases c5 : (t262.length : Int) = 2
   ·
    rw [if_pos c5] at H
    have c5b0 : ((t262.length : Int) == 2) = true := beq_iff_eq.mpr c5
    have c5b1 : ((t262.length : Int) != 2) = false := bne_eq_false_iff_eq.mpr c5
    clear c5
    obtain rfl := Option.some.inj H
    go_enter Tryd.func8, Tryd.ntmps8
    go_wp2_with (first | ((with_reducible refine gate_dst (N := 9) rfl ?_); (try (refine gate_guard (by rfl) ?_; dsimp only)); refine Kd.R_lit k47 _ 47 ?hg (N := 9) ?hd (xs := ([(⟨0, 1⟩ : S47), (⟨1, 2⟩ : S47), (⟨0, 2⟩ : S47)] : List (S47))) (inner := [.int .i64 0, .int .i64 1, .int .i64 1, .int .i64 2, .int .i64 0, .int .i64 2]) (ok := fun _ => True) (okp := fun _ => True) ?hr ?hp (fun _ hk => hk) trivial (Below.refl _ _) (Nat.le_refl _) (by simp) ?_; (case hd => rfl); (case hg => rfl); (case hr => first | (go_simp; done) | (go_simp; rfl)); (case hp => exact (Reps.c2 (show Kd.M k47 _ _ _ (⟨0, 1⟩ : S47) [.int .i64 0, .int .i64 1] from (k47_mkM _ _ _ (⟨0, 1⟩ : S47) )) (Reps.c2 (show Kd.M k47 _ _ _ (⟨1, 2⟩ : S47) [.int .i64 1, .int .i64 2] from (k47_mkM _ _ _ (⟨1, 2⟩ : S47) )) (Reps.c2 (show Kd.M k47 _ _ _ (⟨0, 2⟩ : S47) [.int .i64 0, .int .i64 2] from (k47_mkM _ _ _ (⟨0, 2⟩ : S47) )) (Reps.none _ _))))); intro v256 w6 ho7 hb hg_ hnew_; clear hg_ hnew_; (first | rw [← Ny255.out] at ho7 | (simp only [Int.reduceToNat] at ho7; rw [← Ny255.out] at ho7)); have HO257 := Aside0.mk (Kd.R_lower ho7 (below_size bel)); replace HB := Aside0.mk (below_step bel hb); clear hb ho7) | ((with_reducible refine gate_dst (N := 11) rfl ?_); (try (refine gate_guard (by rfl) ?_; dsimp only)); refine Kd.R_lit k49 _ 49 ?hg (N := 11) ?hd (xs := ([(⟨0, 1⟩ : S49)] : List (S49))) (inner := [.int .i64 0, .int .i64 1]) (ok := fun _ => True) (okp := fun _ => True) ?hr ?hp (fun _ hk => hk) trivial (Below.refl _ _) (Nat.le_refl _) (by simp) ?_; (case hd => rfl); (case hg => rfl); (case hr => first | (go_simp; done) | (go_simp; rfl)); (case hp => exact (Reps.c2 (show Kd.M k49 _ _ _ (⟨0, 1⟩ : S49) [.int .i64 0, .int .i64 1] from (k49_mkM _ _ _ (⟨0, 1⟩ : S49) )) (Reps.none _ _))); intro v259 w8 ho9 hb hg_ hnew_; clear hg_ hnew_; (first | rw [← Ny258.out] at ho9 | (simp only [Int.reduceToNat] at ho9; rw [← Ny258.out] at ho9)); have HO260 := Aside0.mk (Kd.R_lower ho9 (below_size bel)); replace HO257 := Aside0.mk (Kd.R_below (ownx HO257) hb); replace HB := Aside0.mk (below_step bel hb); clear hb ho9; obtain ⟨Ao10, co10, eo10⟩ := Kd.R_slice HO260.out; subst eo10; obtain ⟨Ao11, co11, eo11⟩ := Kd.R_slice HO257.out; subst eo11) | ((with_reducible refine gate_dst (N := 1) rfl ?_); (try (refine gate_guard (by rfl) ?_; dsimp only)); refine box_event ?hg (N := 1) ?hd (cs := #[.int .i64 0, .slice none 0 0, .slice none 0 0]) (t := 25) ?hr ?_; (case hd => rfl); (case hg => rfl); (case hr => first | (go_simp; done) | (go_simp; rfl)); intro gb261 hg w12 hbox hb; have BK261 := Aside0.mk (hbox); have GW261 := bsz (w := w) hg; have GE261 := GW261; replace HO257 := Aside0.mk (Kd.R_below (ownx HO257) hb); replace HO260 := Aside0.mk (Kd.R_below (ownx HO260) hb); replace HB := Aside0.mk (below_step bel hb); clear hb hbox hg; obtain ⟨hcz13_0, hcz13_1, hcz13_2⟩ := bc3 BK261.out; obtain ⟨hfz13_0, hfz13_1, hfz13_2⟩ := bf3 BK261.out) | ((with_reducible refine gate_callee (f := 20) rfl ?_); refine goesL_ (some 15) rfl rfl Tryd.func20 (by kernel_rfl) rfl #[.agg #[.int .i64 3, .slice Ao11 y255.length co11, .slice Ao10 y258.length co10], .int .i64 7, .int .i64 2] rfl mapz ?_; (with_reducible refine (feed_Isolate.calls k 3 _ _ y255 _ _ y258 7 2 t262 t265 _ ?side1 ?side2 ?side3 ?side4 (tbz HT) A1.out).mono ?_); (case side1 => refine (Kd.R_reads' (e := 47) (base := w.heap.size) (ok := fun k_ => True) (n := y255.length) (c := co11) ?_).2.2; exact (by (with_reducible repeat (first | apply Kd.R_alloc | apply Kd.R_drewN | apply Kd.R_drew)); exact (Kd.R_mono (Kd.R_far (p := ⟨gb261, 2, none⟩) (Kd.R_far (p := ⟨gb261, 1, none⟩) (Kd.R_far (p := ⟨gb261, 0, none⟩) (Kd.R_types HO257.out BK261.out (by decide)) (fun _ hk => hk.2) (.int .i64 3)) (fun _ hk => hk.2) (.slice Ao11 y255.length co11)) (fun _ hk => hk.2) (.slice Ao10 y258.length co10)) (fun _ h_ => h_.1)))); (case side2 => exact (Kd.R_reads' HO257.out).2.1); (case side3 => refine (Kd.R_reads' (e := 49) (base := w.heap.size) (ok := fun k_ => True) (n := y258.length) (c := co10) ?_).2.2; exact (by (with_reducible repeat (first | apply Kd.R_alloc | apply Kd.R_drewN | apply Kd.R_drew)); exact (Kd.R_mono (Kd.R_far (p := ⟨gb261, 2, none⟩) (Kd.R_far (p := ⟨gb261, 1, none⟩) (Kd.R_far (p := ⟨gb261, 0, none⟩) (Kd.R_types HO260.out BK261.out (by decide)) (fun _ hk => hk.2) (.int .i64 3)) (fun _ hk => hk.2) (.slice Ao11 y255.length co11)) (fun _ hk => hk.2) (.slice Ao10 y258.length co10)) (fun _ h_ => h_.1)))); (case side4 => exact (Kd.R_reads' HO260.out).2.1); rintro e w14 ⟨v263, rfl, ho0, hb⟩; refine ⟨_, rfl, ?_⟩; have HO264 := Aside0.mk (Kd.R_lower ho0 (below_size bel)); replace HO257 := Aside0.mk (Kd.R_below (by (with_reducible repeat (first | apply Kd.R_alloc | apply Kd.R_drewN | apply Kd.R_drew)); exact (Kd.R_mono (Kd.R_far (p := ⟨gb261, 2, none⟩) (Kd.R_far (p := ⟨gb261, 1, none⟩) (Kd.R_far (p := ⟨gb261, 0, none⟩) (Kd.R_types HO257.out BK261.out (by decide)) (fun _ hk => hk.2) (.int .i64 3)) (fun _ hk => hk.2) (.slice Ao11 y255.length co11)) (fun _ hk => hk.2) (.slice Ao10 y258.length co10)) (fun _ h_ => h_.1))) hb); replace HO260 := Aside0.mk (Kd.R_below (by (with_reducible repeat (first | apply Kd.R_alloc | apply Kd.R_drewN | apply Kd.R_drew)); exact (Kd.R_mono (Kd.R_far (p := ⟨gb261, 2, none⟩) (Kd.R_far (p := ⟨gb261, 1, none⟩) (Kd.R_far (p := ⟨gb261, 0, none⟩) (Kd.R_types HO260.out BK261.out (by decide)) (fun _ hk => hk.2) (.int .i64 3)) (fun _ hk => hk.2) (.slice Ao11 y255.length co11)) (fun _ hk => hk.2) (.slice Ao10 y258.length co10)) (fun _ h_ => h_.1))) hb); replace BK261 := Aside0.mk (blk_below (g := gb261) (o := .cells #[.int .i64 3, .slice Ao11 y255.length co11, .slice Ao10 y258.length co10] 25 (0, 0)) (by (with_reducible repeat (first | refine blk_drewN ?_ _ | refine blk_drew ?_ | refine blk_alloc ?_ _)); refine blk_put (cs := #[.int .i64 3, .slice Ao11 y255.length co11, .slice none 0 0]) ?_ 2 _ rfl; (with_reducible repeat (first | refine blk_drewN ?_ _ | refine blk_drew ?_ | refine blk_alloc ?_ _)); refine blk_put (cs := #[.int .i64 3, .slice none 0 0, .slice none 0 0]) ?_ 1 _ rfl; (with_reducible repeat (first | refine blk_drewN ?_ _ | refine blk_drew ?_ | refine blk_alloc ?_ _)); refine blk_put (cs := #[.int .i64 0, .slice none 0 0, .slice none 0 0]) ?_ 0 _ rfl; (with_reducible repeat (first | refine blk_drewN ?_ _ | refine blk_drew ?_ | refine blk_alloc ?_ _)); exact BK261.out) hb); replace HB := Aside0.mk (below_step bel hb); (try clear hb); (try clear hb2); (try clear hk); (try clear hi); (try clear ho0)) | ((with_reducible refine gate_dst (N := 20) rfl ?_); (try (refine gate_guard (by rfl) ?_; dsimp only)); refine Kd.R_lit k47 _ 47 ?hg (N := 20) ?hd (xs := ([(⟨0, 1⟩ : S47)] : List (S47))) (inner := [.int .i64 0, .int .i64 1]) (ok := fun _ => True) (okp := fun _ => True) ?hr ?hp (fun _ hk => hk) trivial (Below.refl _ _) (Nat.le_refl _) (by simp) ?_; (case hd => rfl); (case hg => rfl); (case hr => first | (go_simp; done) | (go_simp; rfl)); (case hp => exact (Reps.c2 (show Kd.M k47 _ _ _ (⟨0, 1⟩ : S47) [.int .i64 0, .int .i64 1] from (k47_mkM _ _ _ (⟨0, 1⟩ : S47) )) (Reps.none _ _))); intro v267 w15 ho16 hb hg_ hnew_; clear hg_ hnew_; (first | rw [← Ny266.out] at ho16 | (simp only [Int.reduceToNat] at ho16; rw [← Ny266.out] at ho16)); have HO268 := Aside0.mk (Kd.R_lower (Kd.R_new' ho16 (Kd.R_lt (ownx HO257))) (below_size bel)); replace HO257 := Aside0.mk (Kd.R_elder' (ownx HO257) (Kd.R_base ho16) hb); replace HO260 := Aside0.mk (Kd.R_below (ownx HO260) hb); replace HO264 := Aside0.mk (Kd.R_below (ownx HO264) hb); replace BK261 := Aside0.mk (blk_below (g := gb261) blkz hb); replace HB := Aside0.mk (below_step bel hb); clear hb ho16) | ((with_reducible refine gate_dst (N := 23) rfl ?_); (try (refine gate_guard (by rfl) ?_; dsimp only)); refine Kd.R_lit k49 _ 49 ?hg (N := 23) ?hd (xs := ([(⟨0, 1⟩ : S49), (⟨1, 2⟩ : S49)] : List (S49))) (inner := [.int .i64 0, .int .i64 1, .int .i64 1, .int .i64 2]) (ok := fun _ => True) (okp := fun _ => True) ?hr ?hp (fun _ hk => hk) trivial (Below.refl _ _) (Nat.le_refl _) (by simp) ?_; (case hd => rfl); (case hg => rfl); (case hr => first | (go_simp; done) | (go_simp; rfl)); (case hp => exact (Reps.c2 (show Kd.M k49 _ _ _ (⟨0, 1⟩ : S49) [.int .i64 0, .int .i64 1] from (k49_mkM _ _ _ (⟨0, 1⟩ : S49) )) (Reps.c2 (show Kd.M k49 _ _ _ (⟨1, 2⟩ : S49) [.int .i64 1, .int .i64 2] from (k49_mkM _ _ _ (⟨1, 2⟩ : S49) )) (Reps.none _ _)))); intro v270 w17 ho18 hb hg_ hnew_; clear hg_ hnew_; (first | rw [← Ny269.out] at ho18 | (simp only [Int.reduceToNat] at ho18; rw [← Ny269.out] at ho18)); have HO271 := Aside0.mk (Kd.R_lower (Kd.R_new' ho18 (Kd.R_lt (ownx HO260))) (below_size bel)); replace HO257 := Aside0.mk (Kd.R_below (ownx HO257) hb); replace HO260 := Aside0.mk (Kd.R_elder' (ownx HO260) (Kd.R_base ho18) hb); replace HO264 := Aside0.mk (Kd.R_below (ownx HO264) hb); replace HO268 := Aside0.mk (Kd.R_below (ownx HO268) hb); replace BK261 := Aside0.mk (blk_below (g := gb261) blkz hb); replace HB := Aside0.mk (below_step bel hb); clear hb ho18; obtain ⟨Ao19, co19, eo19⟩ := Kd.R_slice HO271.out; subst eo19; obtain ⟨Ao20, co20, eo20⟩ := Kd.R_slice HO268.out; subst eo20) | ((with_reducible refine gate_callee (f := 21) rfl ?_); refine goesL_ (some 25) rfl rfl Tryd.func21 (by kernel_rfl) rfl #[.agg #[.int .i64 2, .slice Ao20 y266.length co20, .slice Ao19 y269.length co19]] rfl mapz ?_; (with_reducible refine (feed_States.calls k 2 _ _ y266 _ _ y269 t272 t273 _ ?side1 ?side2 ?side3 ?side4 (tbz HT) A2.out).mono ?_); (case side1 => repeat (first | exact (Kd.R_reads' HO268.out).2.2 | (with_reducible refine Kd.C_alloc ?_ _) | (with_reducible refine Kd.C_drewN ?_ _) | (with_reducible refine Kd.C_drew ?_))); (case side2 => exact (Kd.R_reads' HO268.out).2.1); (case side3 => repeat (first | exact (Kd.R_reads' HO271.out).2.2 | (with_reducible refine Kd.C_alloc ?_ _) | (with_reducible refine Kd.C_drewN ?_ _) | (with_reducible refine Kd.C_drew ?_))); (case side4 => exact (Kd.R_reads' HO271.out).2.1); rintro e w21 ⟨rfl, hb⟩; refine ⟨_, rfl, ?_⟩; replace HO257 := Aside0.mk (Kd.R_below (ownx HO257) hb); replace HO260 := Aside0.mk (Kd.R_below (ownx HO260) hb); replace HO264 := Aside0.mk (Kd.R_below (ownx HO264) hb); replace HO268 := Aside0.mk (Kd.R_below (ownx HO268) hb); replace HO271 := Aside0.mk (Kd.R_below (ownx HO271) hb); replace BK261 := Aside0.mk (blk_below (g := gb261) blkz hb); replace HB := Aside0.mk (below_step bel hb); clear hb; obtain ⟨Ao22, co22, eo22⟩ := Kd.R_slice HO264.out; subst eo22))
    go_ret
    exact ⟨ezz, bel⟩
   ·
    rw [if_neg c5] at H
    have c5b0 : ((t262.length : Int) == 2) = false := beq_eq_false_iff_ne.mpr c5
    have c5b1 : ((t262.length : Int) != 2) = true := bne_iff_ne.mpr c5
    obtain rfl := Option.some.inj H
    go_enter Tryd.func8, Tryd.ntmps8
    go_wp2_with (first | ((with_reducible refine gate_dst (N := 9) rfl ?_); (try (refine gate_guard (by rfl) ?_; dsimp only)); refine Kd.R_lit k47 _ 47 ?hg (N := 9) ?hd (xs := ([(⟨0, 1⟩ : S47), (⟨1, 2⟩ : S47), (⟨0, 2⟩ : S47)] : List (S47))) (inner := [.int .i64 0, .int .i64 1, .int .i64 1, .int .i64 2, .int .i64 0, .int .i64 2]) (ok := fun _ => True) (okp := fun _ => True) ?hr ?hp (fun _ hk => hk) trivial (Below.refl _ _) (Nat.le_refl _) (by simp) ?_; (case hd => rfl); (case hg => rfl); (case hr => first | (go_simp; done) | (go_simp; rfl)); (case hp => exact (Reps.c2 (show Kd.M k47 _ _ _ (⟨0, 1⟩ : S47) [.int .i64 0, .int .i64 1] from (k47_mkM _ _ _ (⟨0, 1⟩ : S47) )) (Reps.c2 (show Kd.M k47 _ _ _ (⟨1, 2⟩ : S47) [.int .i64 1, .int .i64 2] from (k47_mkM _ _ _ (⟨1, 2⟩ : S47) )) (Reps.c2 (show Kd.M k47 _ _ _ (⟨0, 2⟩ : S47) [.int .i64 0, .int .i64 2] from (k47_mkM _ _ _ (⟨0, 2⟩ : S47) )) (Reps.none _ _))))); intro v256 w23 ho24 hb hg_ hnew_; clear hg_ hnew_; (first | rw [← Ny255.out] at ho24 | (simp only [Int.reduceToNat] at ho24; rw [← Ny255.out] at ho24)); have HO257 := Aside0.mk (Kd.R_lower ho24 (below_size bel)); replace HB := Aside0.mk (below_step bel hb); clear hb ho24) | ((with_reducible refine gate_dst (N := 11) rfl ?_); (try (refine gate_guard (by rfl) ?_; dsimp only)); refine Kd.R_lit k49 _ 49 ?hg (N := 11) ?hd (xs := ([(⟨0, 1⟩ : S49)] : List (S49))) (inner := [.int .i64 0, .int .i64 1]) (ok := fun _ => True) (okp := fun _ => True) ?hr ?hp (fun _ hk => hk) trivial (Below.refl _ _) (Nat.le_refl _) (by simp) ?_; (case hd => rfl); (case hg => rfl); (case hr => first | (go_simp; done) | (go_simp; rfl)); (case hp => exact (Reps.c2 (show Kd.M k49 _ _ _ (⟨0, 1⟩ : S49) [.int .i64 0, .int .i64 1] from (k49_mkM _ _ _ (⟨0, 1⟩ : S49) )) (Reps.none _ _))); intro v259 w25 ho26 hb hg_ hnew_; clear hg_ hnew_; (first | rw [← Ny258.out] at ho26 | (simp only [Int.reduceToNat] at ho26; rw [← Ny258.out] at ho26)); have HO260 := Aside0.mk (Kd.R_lower ho26 (below_size bel)); replace HO257 := Aside0.mk (Kd.R_below (ownx HO257) hb); replace HB := Aside0.mk (below_step bel hb); clear hb ho26; obtain ⟨Ao27, co27, eo27⟩ := Kd.R_slice HO260.out; subst eo27; obtain ⟨Ao28, co28, eo28⟩ := Kd.R_slice HO257.out; subst eo28) | ((with_reducible refine gate_dst (N := 1) rfl ?_); (try (refine gate_guard (by rfl) ?_; dsimp only)); refine box_event ?hg (N := 1) ?hd (cs := #[.int .i64 0, .slice none 0 0, .slice none 0 0]) (t := 25) ?hr ?_; (case hd => rfl); (case hg => rfl); (case hr => first | (go_simp; done) | (go_simp; rfl)); intro gb261 hg w29 hbox hb; have BK261 := Aside0.mk (hbox); have GW261 := bsz (w := w) hg; have GE261 := GW261; replace HO257 := Aside0.mk (Kd.R_below (ownx HO257) hb); replace HO260 := Aside0.mk (Kd.R_below (ownx HO260) hb); replace HB := Aside0.mk (below_step bel hb); clear hb hbox hg; obtain ⟨hcz30_0, hcz30_1, hcz30_2⟩ := bc3 BK261.out; obtain ⟨hfz30_0, hfz30_1, hfz30_2⟩ := bf3 BK261.out) | ((with_reducible refine gate_callee (f := 20) rfl ?_); refine goesL_ (some 15) rfl rfl Tryd.func20 (by kernel_rfl) rfl #[.agg #[.int .i64 3, .slice Ao28 y255.length co28, .slice Ao27 y258.length co27], .int .i64 7, .int .i64 2] rfl mapz ?_; (with_reducible refine (feed_Isolate.calls k 3 _ _ y255 _ _ y258 7 2 t262 t265 _ ?side1 ?side2 ?side3 ?side4 (tbz HT) A1.out).mono ?_); (case side1 => refine (Kd.R_reads' (e := 47) (base := w.heap.size) (ok := fun k_ => True) (n := y255.length) (c := co28) ?_).2.2; exact (by (with_reducible repeat (first | apply Kd.R_alloc | apply Kd.R_drewN | apply Kd.R_drew)); exact (Kd.R_mono (Kd.R_far (p := ⟨gb261, 2, none⟩) (Kd.R_far (p := ⟨gb261, 1, none⟩) (Kd.R_far (p := ⟨gb261, 0, none⟩) (Kd.R_types HO257.out BK261.out (by decide)) (fun _ hk => hk.2) (.int .i64 3)) (fun _ hk => hk.2) (.slice Ao28 y255.length co28)) (fun _ hk => hk.2) (.slice Ao27 y258.length co27)) (fun _ h_ => h_.1)))); (case side2 => exact (Kd.R_reads' HO257.out).2.1); (case side3 => refine (Kd.R_reads' (e := 49) (base := w.heap.size) (ok := fun k_ => True) (n := y258.length) (c := co27) ?_).2.2; exact (by (with_reducible repeat (first | apply Kd.R_alloc | apply Kd.R_drewN | apply Kd.R_drew)); exact (Kd.R_mono (Kd.R_far (p := ⟨gb261, 2, none⟩) (Kd.R_far (p := ⟨gb261, 1, none⟩) (Kd.R_far (p := ⟨gb261, 0, none⟩) (Kd.R_types HO260.out BK261.out (by decide)) (fun _ hk => hk.2) (.int .i64 3)) (fun _ hk => hk.2) (.slice Ao28 y255.length co28)) (fun _ hk => hk.2) (.slice Ao27 y258.length co27)) (fun _ h_ => h_.1)))); (case side4 => exact (Kd.R_reads' HO260.out).2.1); rintro e w31 ⟨v263, rfl, ho0, hb⟩; refine ⟨_, rfl, ?_⟩; have HO264 := Aside0.mk (Kd.R_lower ho0 (below_size bel)); replace HO257 := Aside0.mk (Kd.R_below (by (with_reducible repeat (first | apply Kd.R_alloc | apply Kd.R_drewN | apply Kd.R_drew)); exact (Kd.R_mono (Kd.R_far (p := ⟨gb261, 2, none⟩) (Kd.R_far (p := ⟨gb261, 1, none⟩) (Kd.R_far (p := ⟨gb261, 0, none⟩) (Kd.R_types HO257.out BK261.out (by decide)) (fun _ hk => hk.2) (.int .i64 3)) (fun _ hk => hk.2) (.slice Ao28 y255.length co28)) (fun _ hk => hk.2) (.slice Ao27 y258.length co27)) (fun _ h_ => h_.1))) hb); replace HO260 := Aside0.mk (Kd.R_below (by (with_reducible repeat (first | apply Kd.R_alloc | apply Kd.R_drewN | apply Kd.R_drew)); exact (Kd.R_mono (Kd.R_far (p := ⟨gb261, 2, none⟩) (Kd.R_far (p := ⟨gb261, 1, none⟩) (Kd.R_far (p := ⟨gb261, 0, none⟩) (Kd.R_types HO260.out BK261.out (by decide)) (fun _ hk => hk.2) (.int .i64 3)) (fun _ hk => hk.2) (.slice Ao28 y255.length co28)) (fun _ hk => hk.2) (.slice Ao27 y258.length co27)) (fun _ h_ => h_.1))) hb); replace BK261 := Aside0.mk (blk_below (g := gb261) (o := .cells #[.int .i64 3, .slice Ao28 y255.length co28, .slice Ao27 y258.length co27] 25 (0, 0)) (by (with_reducible repeat (first | refine blk_drewN ?_ _ | refine blk_drew ?_ | refine blk_alloc ?_ _)); refine blk_put (cs := #[.int .i64 3, .slice Ao28 y255.length co28, .slice none 0 0]) ?_ 2 _ rfl; (with_reducible repeat (first | refine blk_drewN ?_ _ | refine blk_drew ?_ | refine blk_alloc ?_ _)); refine blk_put (cs := #[.int .i64 3, .slice none 0 0, .slice none 0 0]) ?_ 1 _ rfl; (with_reducible repeat (first | refine blk_drewN ?_ _ | refine blk_drew ?_ | refine blk_alloc ?_ _)); refine blk_put (cs := #[.int .i64 0, .slice none 0 0, .slice none 0 0]) ?_ 0 _ rfl; (with_reducible repeat (first | refine blk_drewN ?_ _ | refine blk_drew ?_ | refine blk_alloc ?_ _)); exact BK261.out) hb); replace HB := Aside0.mk (below_step bel hb); (try clear hb); (try clear hb2); (try clear hk); (try clear hi); (try clear ho0)) | ((with_reducible refine gate_dst (N := 20) rfl ?_); (try (refine gate_guard (by rfl) ?_; dsimp only)); refine Kd.R_lit k47 _ 47 ?hg (N := 20) ?hd (xs := ([(⟨0, 1⟩ : S47)] : List (S47))) (inner := [.int .i64 0, .int .i64 1]) (ok := fun _ => True) (okp := fun _ => True) ?hr ?hp (fun _ hk => hk) trivial (Below.refl _ _) (Nat.le_refl _) (by simp) ?_; (case hd => rfl); (case hg => rfl); (case hr => first | (go_simp; done) | (go_simp; rfl)); (case hp => exact (Reps.c2 (show Kd.M k47 _ _ _ (⟨0, 1⟩ : S47) [.int .i64 0, .int .i64 1] from (k47_mkM _ _ _ (⟨0, 1⟩ : S47) )) (Reps.none _ _))); intro v267 w32 ho33 hb hg_ hnew_; clear hg_ hnew_; (first | rw [← Ny266.out] at ho33 | (simp only [Int.reduceToNat] at ho33; rw [← Ny266.out] at ho33)); have HO268 := Aside0.mk (Kd.R_lower (Kd.R_new' ho33 (Kd.R_lt (ownx HO257))) (below_size bel)); replace HO257 := Aside0.mk (Kd.R_elder' (ownx HO257) (Kd.R_base ho33) hb); replace HO260 := Aside0.mk (Kd.R_below (ownx HO260) hb); replace HO264 := Aside0.mk (Kd.R_below (ownx HO264) hb); replace BK261 := Aside0.mk (blk_below (g := gb261) blkz hb); replace HB := Aside0.mk (below_step bel hb); clear hb ho33) | ((with_reducible refine gate_dst (N := 23) rfl ?_); (try (refine gate_guard (by rfl) ?_; dsimp only)); refine Kd.R_lit k49 _ 49 ?hg (N := 23) ?hd (xs := ([(⟨0, 1⟩ : S49), (⟨1, 2⟩ : S49)] : List (S49))) (inner := [.int .i64 0, .int .i64 1, .int .i64 1, .int .i64 2]) (ok := fun _ => True) (okp := fun _ => True) ?hr ?hp (fun _ hk => hk) trivial (Below.refl _ _) (Nat.le_refl _) (by simp) ?_; (case hd => rfl); (case hg => rfl); (case hr => first | (go_simp; done) | (go_simp; rfl)); (case hp => exact (Reps.c2 (show Kd.M k49 _ _ _ (⟨0, 1⟩ : S49) [.int .i64 0, .int .i64 1] from (k49_mkM _ _ _ (⟨0, 1⟩ : S49) )) (Reps.c2 (show Kd.M k49 _ _ _ (⟨1, 2⟩ : S49) [.int .i64 1, .int .i64 2] from (k49_mkM _ _ _ (⟨1, 2⟩ : S49) )) (Reps.none _ _)))); intro v270 w34 ho35 hb hg_ hnew_; clear hg_ hnew_; (first | rw [← Ny269.out] at ho35 | (simp only [Int.reduceToNat] at ho35; rw [← Ny269.out] at ho35)); have HO271 := Aside0.mk (Kd.R_lower (Kd.R_new' ho35 (Kd.R_lt (ownx HO260))) (below_size bel)); replace HO257 := Aside0.mk (Kd.R_below (ownx HO257) hb); replace HO260 := Aside0.mk (Kd.R_elder' (ownx HO260) (Kd.R_base ho35) hb); replace HO264 := Aside0.mk (Kd.R_below (ownx HO264) hb); replace HO268 := Aside0.mk (Kd.R_below (ownx HO268) hb); replace BK261 := Aside0.mk (blk_below (g := gb261) blkz hb); replace HB := Aside0.mk (below_step bel hb); clear hb ho35; obtain ⟨Ao36, co36, eo36⟩ := Kd.R_slice HO271.out; subst eo36; obtain ⟨Ao37, co37, eo37⟩ := Kd.R_slice HO268.out; subst eo37) | ((with_reducible refine gate_callee (f := 21) rfl ?_); refine goesL_ (some 25) rfl rfl Tryd.func21 (by kernel_rfl) rfl #[.agg #[.int .i64 2, .slice Ao37 y266.length co37, .slice Ao36 y269.length co36]] rfl mapz ?_; (with_reducible refine (feed_States.calls k 2 _ _ y266 _ _ y269 t272 t273 _ ?side1 ?side2 ?side3 ?side4 (tbz HT) A2.out).mono ?_); (case side1 => repeat (first | exact (Kd.R_reads' HO268.out).2.2 | (with_reducible refine Kd.C_alloc ?_ _) | (with_reducible refine Kd.C_drewN ?_ _) | (with_reducible refine Kd.C_drew ?_))); (case side2 => exact (Kd.R_reads' HO268.out).2.1); (case side3 => repeat (first | exact (Kd.R_reads' HO271.out).2.2 | (with_reducible refine Kd.C_alloc ?_ _) | (with_reducible refine Kd.C_drewN ?_ _) | (with_reducible refine Kd.C_drew ?_))); (case side4 => exact (Kd.R_reads' HO271.out).2.1); rintro e w38 ⟨rfl, hb⟩; refine ⟨_, rfl, ?_⟩; replace HO257 := Aside0.mk (Kd.R_below (ownx HO257) hb); replace HO260 := Aside0.mk (Kd.R_below (ownx HO260) hb); replace HO264 := Aside0.mk (Kd.R_below (ownx HO264) hb); replace HO268 := Aside0.mk (Kd.R_below (ownx HO268) hb); replace HO271 := Aside0.mk (Kd.R_below (ownx HO271) hb); replace BK261 := Aside0.mk (blk_below (g := gb261) blkz hb); replace HB := Aside0.mk (below_step bel hb); clear hb; obtain ⟨Ao39, co39, eo39⟩ := Kd.R_slice HO264.out; subst eo39))
    go_ret
    exact ⟨ezz, bel⟩
  ·
   rw [if_neg c4] at H
   have c4b0 : (t273 == 0) = false := beq_eq_false_iff_ne.mpr c4
   have c4b1 : (t273 != 0) = true := bne_iff_ne.mpr c4
   obtain rfl := Option.some.inj H
   go_enter Tryd.func8, Tryd.ntmps8
   go_wp2_with (first | ((with_reducible refine gate_dst (N := 9) rfl ?_); (try (refine gate_guard (by rfl) ?_; dsimp only)); refine Kd.R_lit k47 _ 47 ?hg (N := 9) ?hd (xs := ([(⟨0, 1⟩ : S47), (⟨1, 2⟩ : S47), (⟨0, 2⟩ : S47)] : List (S47))) (inner := [.int .i64 0, .int .i64 1, .int .i64 1, .int .i64 2, .int .i64 0, .int .i64 2]) (ok := fun _ => True) (okp := fun _ => True) ?hr ?hp (fun _ hk => hk) trivial (Below.refl _ _) (Nat.le_refl _) (by simp) ?_; (case hd => rfl); (case hg => rfl); (case hr => first | (go_simp; done) | (go_simp; rfl)); (case hp => exact (Reps.c2 (show Kd.M k47 _ _ _ (⟨0, 1⟩ : S47) [.int .i64 0, .int .i64 1] from (k47_mkM _ _ _ (⟨0, 1⟩ : S47) )) (Reps.c2 (show Kd.M k47 _ _ _ (⟨1, 2⟩ : S47) [.int .i64 1, .int .i64 2] from (k47_mkM _ _ _ (⟨1, 2⟩ : S47) )) (Reps.c2 (show Kd.M k47 _ _ _ (⟨0, 2⟩ : S47) [.int .i64 0, .int .i64 2] from (k47_mkM _ _ _ (⟨0, 2⟩ : S47) )) (Reps.none _ _))))); intro v256 w40 ho41 hb hg_ hnew_; clear hg_ hnew_; (first | rw [← Ny255.out] at ho41 | (simp only [Int.reduceToNat] at ho41; rw [← Ny255.out] at ho41)); have HO257 := Aside0.mk (Kd.R_lower ho41 (below_size bel)); replace HB := Aside0.mk (below_step bel hb); clear hb ho41) | ((with_reducible refine gate_dst (N := 11) rfl ?_); (try (refine gate_guard (by rfl) ?_; dsimp only)); refine Kd.R_lit k49 _ 49 ?hg (N := 11) ?hd (xs := ([(⟨0, 1⟩ : S49)] : List (S49))) (inner := [.int .i64 0, .int .i64 1]) (ok := fun _ => True) (okp := fun _ => True) ?hr ?hp (fun _ hk => hk) trivial (Below.refl _ _) (Nat.le_refl _) (by simp) ?_; (case hd => rfl); (case hg => rfl); (case hr => first | (go_simp; done) | (go_simp; rfl)); (case hp => exact (Reps.c2 (show Kd.M k49 _ _ _ (⟨0, 1⟩ : S49) [.int .i64 0, .int .i64 1] from (k49_mkM _ _ _ (⟨0, 1⟩ : S49) )) (Reps.none _ _))); intro v259 w42 ho43 hb hg_ hnew_; clear hg_ hnew_; (first | rw [← Ny258.out] at ho43 | (simp only [Int.reduceToNat] at ho43; rw [← Ny258.out] at ho43)); have HO260 := Aside0.mk (Kd.R_lower ho43 (below_size bel)); replace HO257 := Aside0.mk (Kd.R_below (ownx HO257) hb); replace HB := Aside0.mk (below_step bel hb); clear hb ho43; obtain ⟨Ao44, co44, eo44⟩ := Kd.R_slice HO260.out; subst eo44; obtain ⟨Ao45, co45, eo45⟩ := Kd.R_slice HO257.out; subst eo45) | ((with_reducible refine gate_dst (N := 1) rfl ?_); (try (refine gate_guard (by rfl) ?_; dsimp only)); refine box_event ?hg (N := 1) ?hd (cs := #[.int .i64 0, .slice none 0 0, .slice none 0 0]) (t := 25) ?hr ?_; (case hd => rfl); (case hg => rfl); (case hr => first | (go_simp; done) | (go_simp; rfl)); intro gb261 hg w46 hbox hb; have BK261 := Aside0.mk (hbox); have GW261 := bsz (w := w) hg; have GE261 := GW261; replace HO257 := Aside0.mk (Kd.R_below (ownx HO257) hb); replace HO260 := Aside0.mk (Kd.R_below (ownx HO260) hb); replace HB := Aside0.mk (below_step bel hb); clear hb hbox hg; obtain ⟨hcz47_0, hcz47_1, hcz47_2⟩ := bc3 BK261.out; obtain ⟨hfz47_0, hfz47_1, hfz47_2⟩ := bf3 BK261.out) | ((with_reducible refine gate_callee (f := 20) rfl ?_); refine goesL_ (some 15) rfl rfl Tryd.func20 (by kernel_rfl) rfl #[.agg #[.int .i64 3, .slice Ao45 y255.length co45, .slice Ao44 y258.length co44], .int .i64 7, .int .i64 2] rfl mapz ?_; (with_reducible refine (feed_Isolate.calls k 3 _ _ y255 _ _ y258 7 2 t262 t265 _ ?side1 ?side2 ?side3 ?side4 (tbz HT) A1.out).mono ?_); (case side1 => refine (Kd.R_reads' (e := 47) (base := w.heap.size) (ok := fun k_ => True) (n := y255.length) (c := co45) ?_).2.2; exact (by (with_reducible repeat (first | apply Kd.R_alloc | apply Kd.R_drewN | apply Kd.R_drew)); exact (Kd.R_mono (Kd.R_far (p := ⟨gb261, 2, none⟩) (Kd.R_far (p := ⟨gb261, 1, none⟩) (Kd.R_far (p := ⟨gb261, 0, none⟩) (Kd.R_types HO257.out BK261.out (by decide)) (fun _ hk => hk.2) (.int .i64 3)) (fun _ hk => hk.2) (.slice Ao45 y255.length co45)) (fun _ hk => hk.2) (.slice Ao44 y258.length co44)) (fun _ h_ => h_.1)))); (case side2 => exact (Kd.R_reads' HO257.out).2.1); (case side3 => refine (Kd.R_reads' (e := 49) (base := w.heap.size) (ok := fun k_ => True) (n := y258.length) (c := co44) ?_).2.2; exact (by (with_reducible repeat (first | apply Kd.R_alloc | apply Kd.R_drewN | apply Kd.R_drew)); exact (Kd.R_mono (Kd.R_far (p := ⟨gb261, 2, none⟩) (Kd.R_far (p := ⟨gb261, 1, none⟩) (Kd.R_far (p := ⟨gb261, 0, none⟩) (Kd.R_types HO260.out BK261.out (by decide)) (fun _ hk => hk.2) (.int .i64 3)) (fun _ hk => hk.2) (.slice Ao45 y255.length co45)) (fun _ hk => hk.2) (.slice Ao44 y258.length co44)) (fun _ h_ => h_.1)))); (case side4 => exact (Kd.R_reads' HO260.out).2.1); rintro e w48 ⟨v263, rfl, ho0, hb⟩; refine ⟨_, rfl, ?_⟩; have HO264 := Aside0.mk (Kd.R_lower ho0 (below_size bel)); replace HO257 := Aside0.mk (Kd.R_below (by (with_reducible repeat (first | apply Kd.R_alloc | apply Kd.R_drewN | apply Kd.R_drew)); exact (Kd.R_mono (Kd.R_far (p := ⟨gb261, 2, none⟩) (Kd.R_far (p := ⟨gb261, 1, none⟩) (Kd.R_far (p := ⟨gb261, 0, none⟩) (Kd.R_types HO257.out BK261.out (by decide)) (fun _ hk => hk.2) (.int .i64 3)) (fun _ hk => hk.2) (.slice Ao45 y255.length co45)) (fun _ hk => hk.2) (.slice Ao44 y258.length co44)) (fun _ h_ => h_.1))) hb); replace HO260 := Aside0.mk (Kd.R_below (by (with_reducible repeat (first | apply Kd.R_alloc | apply Kd.R_drewN | apply Kd.R_drew)); exact (Kd.R_mono (Kd.R_far (p := ⟨gb261, 2, none⟩) (Kd.R_far (p := ⟨gb261, 1, none⟩) (Kd.R_far (p := ⟨gb261, 0, none⟩) (Kd.R_types HO260.out BK261.out (by decide)) (fun _ hk => hk.2) (.int .i64 3)) (fun _ hk => hk.2) (.slice Ao45 y255.length co45)) (fun _ hk => hk.2) (.slice Ao44 y258.length co44)) (fun _ h_ => h_.1))) hb); replace BK261 := Aside0.mk (blk_below (g := gb261) (o := .cells #[.int .i64 3, .slice Ao45 y255.length co45, .slice Ao44 y258.length co44] 25 (0, 0)) (by (with_reducible repeat (first | refine blk_drewN ?_ _ | refine blk_drew ?_ | refine blk_alloc ?_ _)); refine blk_put (cs := #[.int .i64 3, .slice Ao45 y255.length co45, .slice none 0 0]) ?_ 2 _ rfl; (with_reducible repeat (first | refine blk_drewN ?_ _ | refine blk_drew ?_ | refine blk_alloc ?_ _)); refine blk_put (cs := #[.int .i64 3, .slice none 0 0, .slice none 0 0]) ?_ 1 _ rfl; (with_reducible repeat (first | refine blk_drewN ?_ _ | refine blk_drew ?_ | refine blk_alloc ?_ _)); refine blk_put (cs := #[.int .i64 0, .slice none 0 0, .slice none 0 0]) ?_ 0 _ rfl; (with_reducible repeat (first | refine blk_drewN ?_ _ | refine blk_drew ?_ | refine blk_alloc ?_ _)); exact BK261.out) hb); replace HB := Aside0.mk (below_step bel hb); (try clear hb); (try clear hb2); (try clear hk); (try clear hi); (try clear ho0)) | ((with_reducible refine gate_dst (N := 20) rfl ?_); (try (refine gate_guard (by rfl) ?_; dsimp only)); refine Kd.R_lit k47 _ 47 ?hg (N := 20) ?hd (xs := ([(⟨0, 1⟩ : S47)] : List (S47))) (inner := [.int .i64 0, .int .i64 1]) (ok := fun _ => True) (okp := fun _ => True) ?hr ?hp (fun _ hk => hk) trivial (Below.refl _ _) (Nat.le_refl _) (by simp) ?_; (case hd => rfl); (case hg => rfl); (case hr => first | (go_simp; done) | (go_simp; rfl)); (case hp => exact (Reps.c2 (show Kd.M k47 _ _ _ (⟨0, 1⟩ : S47) [.int .i64 0, .int .i64 1] from (k47_mkM _ _ _ (⟨0, 1⟩ : S47) )) (Reps.none _ _))); intro v267 w49 ho50 hb hg_ hnew_; clear hg_ hnew_; (first | rw [← Ny266.out] at ho50 | (simp only [Int.reduceToNat] at ho50; rw [← Ny266.out] at ho50)); have HO268 := Aside0.mk (Kd.R_lower (Kd.R_new' ho50 (Kd.R_lt (ownx HO257))) (below_size bel)); replace HO257 := Aside0.mk (Kd.R_elder' (ownx HO257) (Kd.R_base ho50) hb); replace HO260 := Aside0.mk (Kd.R_below (ownx HO260) hb); replace HO264 := Aside0.mk (Kd.R_below (ownx HO264) hb); replace BK261 := Aside0.mk (blk_below (g := gb261) blkz hb); replace HB := Aside0.mk (below_step bel hb); clear hb ho50) | ((with_reducible refine gate_dst (N := 23) rfl ?_); (try (refine gate_guard (by rfl) ?_; dsimp only)); refine Kd.R_lit k49 _ 49 ?hg (N := 23) ?hd (xs := ([(⟨0, 1⟩ : S49), (⟨1, 2⟩ : S49)] : List (S49))) (inner := [.int .i64 0, .int .i64 1, .int .i64 1, .int .i64 2]) (ok := fun _ => True) (okp := fun _ => True) ?hr ?hp (fun _ hk => hk) trivial (Below.refl _ _) (Nat.le_refl _) (by simp) ?_; (case hd => rfl); (case hg => rfl); (case hr => first | (go_simp; done) | (go_simp; rfl)); (case hp => exact (Reps.c2 (show Kd.M k49 _ _ _ (⟨0, 1⟩ : S49) [.int .i64 0, .int .i64 1] from (k49_mkM _ _ _ (⟨0, 1⟩ : S49) )) (Reps.c2 (show Kd.M k49 _ _ _ (⟨1, 2⟩ : S49) [.int .i64 1, .int .i64 2] from (k49_mkM _ _ _ (⟨1, 2⟩ : S49) )) (Reps.none _ _)))); intro v270 w51 ho52 hb hg_ hnew_; clear hg_ hnew_; (first | rw [← Ny269.out] at ho52 | (simp only [Int.reduceToNat] at ho52; rw [← Ny269.out] at ho52)); have HO271 := Aside0.mk (Kd.R_lower (Kd.R_new' ho52 (Kd.R_lt (ownx HO260))) (below_size bel)); replace HO257 := Aside0.mk (Kd.R_below (ownx HO257) hb); replace HO260 := Aside0.mk (Kd.R_elder' (ownx HO260) (Kd.R_base ho52) hb); replace HO264 := Aside0.mk (Kd.R_below (ownx HO264) hb); replace HO268 := Aside0.mk (Kd.R_below (ownx HO268) hb); replace BK261 := Aside0.mk (blk_below (g := gb261) blkz hb); replace HB := Aside0.mk (below_step bel hb); clear hb ho52; obtain ⟨Ao53, co53, eo53⟩ := Kd.R_slice HO271.out; subst eo53; obtain ⟨Ao54, co54, eo54⟩ := Kd.R_slice HO268.out; subst eo54) | ((with_reducible refine gate_callee (f := 21) rfl ?_); refine goesL_ (some 25) rfl rfl Tryd.func21 (by kernel_rfl) rfl #[.agg #[.int .i64 2, .slice Ao54 y266.length co54, .slice Ao53 y269.length co53]] rfl mapz ?_; (with_reducible refine (feed_States.calls k 2 _ _ y266 _ _ y269 t272 t273 _ ?side1 ?side2 ?side3 ?side4 (tbz HT) A2.out).mono ?_); (case side1 => repeat (first | exact (Kd.R_reads' HO268.out).2.2 | (with_reducible refine Kd.C_alloc ?_ _) | (with_reducible refine Kd.C_drewN ?_ _) | (with_reducible refine Kd.C_drew ?_))); (case side2 => exact (Kd.R_reads' HO268.out).2.1); (case side3 => repeat (first | exact (Kd.R_reads' HO271.out).2.2 | (with_reducible refine Kd.C_alloc ?_ _) | (with_reducible refine Kd.C_drewN ?_ _) | (with_reducible refine Kd.C_drew ?_))); (case side4 => exact (Kd.R_reads' HO271.out).2.1); rintro e w55 ⟨rfl, hb⟩; refine ⟨_, rfl, ?_⟩; replace HO257 := Aside0.mk (Kd.R_below (ownx HO257) hb); replace HO260 := Aside0.mk (Kd.R_below (ownx HO260) hb); replace HO264 := Aside0.mk (Kd.R_below (ownx HO264) hb); replace HO268 := Aside0.mk (Kd.R_below (ownx HO268) hb); replace HO271 := Aside0.mk (Kd.R_below (ownx HO271) hb); replace BK261 := Aside0.mk (blk_below (g := gb261) blkz hb); replace HB := Aside0.mk (below_step bel hb); clear hb))
   go_ret
   exact ⟨ezz, bel⟩
 ·
  rw [if_neg c3] at H
  have c3b0 : (t265 == 0) = false := beq_eq_false_iff_ne.mpr c3
  have c3b1 : (t265 != 0) = true := bne_iff_ne.mpr c3
  obtain rfl := Option.some.inj H
  go_enter Tryd.func8, Tryd.ntmps8
  go_wp2_with (first | ((with_reducible refine gate_dst (N := 9) rfl ?_); (try (refine gate_guard (by rfl) ?_; dsimp only)); refine Kd.R_lit k47 _ 47 ?hg (N := 9) ?hd (xs := ([(⟨0, 1⟩ : S47), (⟨1, 2⟩ : S47), (⟨0, 2⟩ : S47)] : List (S47))) (inner := [.int .i64 0, .int .i64 1, .int .i64 1, .int .i64 2, .int .i64 0, .int .i64 2]) (ok := fun _ => True) (okp := fun _ => True) ?hr ?hp (fun _ hk => hk) trivial (Below.refl _ _) (Nat.le_refl _) (by simp) ?_; (case hd => rfl); (case hg => rfl); (case hr => first | (go_simp; done) | (go_simp; rfl)); (case hp => exact (Reps.c2 (show Kd.M k47 _ _ _ (⟨0, 1⟩ : S47) [.int .i64 0, .int .i64 1] from (k47_mkM _ _ _ (⟨0, 1⟩ : S47) )) (Reps.c2 (show Kd.M k47 _ _ _ (⟨1, 2⟩ : S47) [.int .i64 1, .int .i64 2] from (k47_mkM _ _ _ (⟨1, 2⟩ : S47) )) (Reps.c2 (show Kd.M k47 _ _ _ (⟨0, 2⟩ : S47) [.int .i64 0, .int .i64 2] from (k47_mkM _ _ _ (⟨0, 2⟩ : S47) )) (Reps.none _ _))))); intro v256 w56 ho57 hb hg_ hnew_; clear hg_ hnew_; (first | rw [← Ny255.out] at ho57 | (simp only [Int.reduceToNat] at ho57; rw [← Ny255.out] at ho57)); have HO257 := Aside0.mk (Kd.R_lower ho57 (below_size bel)); replace HB := Aside0.mk (below_step bel hb); clear hb ho57) | ((with_reducible refine gate_dst (N := 11) rfl ?_); (try (refine gate_guard (by rfl) ?_; dsimp only)); refine Kd.R_lit k49 _ 49 ?hg (N := 11) ?hd (xs := ([(⟨0, 1⟩ : S49)] : List (S49))) (inner := [.int .i64 0, .int .i64 1]) (ok := fun _ => True) (okp := fun _ => True) ?hr ?hp (fun _ hk => hk) trivial (Below.refl _ _) (Nat.le_refl _) (by simp) ?_; (case hd => rfl); (case hg => rfl); (case hr => first | (go_simp; done) | (go_simp; rfl)); (case hp => exact (Reps.c2 (show Kd.M k49 _ _ _ (⟨0, 1⟩ : S49) [.int .i64 0, .int .i64 1] from (k49_mkM _ _ _ (⟨0, 1⟩ : S49) )) (Reps.none _ _))); intro v259 w58 ho59 hb hg_ hnew_; clear hg_ hnew_; (first | rw [← Ny258.out] at ho59 | (simp only [Int.reduceToNat] at ho59; rw [← Ny258.out] at ho59)); have HO260 := Aside0.mk (Kd.R_lower ho59 (below_size bel)); replace HO257 := Aside0.mk (Kd.R_below (ownx HO257) hb); replace HB := Aside0.mk (below_step bel hb); clear hb ho59; obtain ⟨Ao60, co60, eo60⟩ := Kd.R_slice HO260.out; subst eo60; obtain ⟨Ao61, co61, eo61⟩ := Kd.R_slice HO257.out; subst eo61) | ((with_reducible refine gate_dst (N := 1) rfl ?_); (try (refine gate_guard (by rfl) ?_; dsimp only)); refine box_event ?hg (N := 1) ?hd (cs := #[.int .i64 0, .slice none 0 0, .slice none 0 0]) (t := 25) ?hr ?_; (case hd => rfl); (case hg => rfl); (case hr => first | (go_simp; done) | (go_simp; rfl)); intro gb261 hg w62 hbox hb; have BK261 := Aside0.mk (hbox); have GW261 := bsz (w := w) hg; have GE261 := GW261; replace HO257 := Aside0.mk (Kd.R_below (ownx HO257) hb); replace HO260 := Aside0.mk (Kd.R_below (ownx HO260) hb); replace HB := Aside0.mk (below_step bel hb); clear hb hbox hg; obtain ⟨hcz63_0, hcz63_1, hcz63_2⟩ := bc3 BK261.out; obtain ⟨hfz63_0, hfz63_1, hfz63_2⟩ := bf3 BK261.out) | ((with_reducible refine gate_callee (f := 20) rfl ?_); refine goesL_ (some 15) rfl rfl Tryd.func20 (by kernel_rfl) rfl #[.agg #[.int .i64 3, .slice Ao61 y255.length co61, .slice Ao60 y258.length co60], .int .i64 7, .int .i64 2] rfl mapz ?_; (with_reducible refine (feed_Isolate.calls k 3 _ _ y255 _ _ y258 7 2 t262 t265 _ ?side1 ?side2 ?side3 ?side4 (tbz HT) A1.out).mono ?_); (case side1 => refine (Kd.R_reads' (e := 47) (base := w.heap.size) (ok := fun k_ => True) (n := y255.length) (c := co61) ?_).2.2; exact (by (with_reducible repeat (first | apply Kd.R_alloc | apply Kd.R_drewN | apply Kd.R_drew)); exact (Kd.R_mono (Kd.R_far (p := ⟨gb261, 2, none⟩) (Kd.R_far (p := ⟨gb261, 1, none⟩) (Kd.R_far (p := ⟨gb261, 0, none⟩) (Kd.R_types HO257.out BK261.out (by decide)) (fun _ hk => hk.2) (.int .i64 3)) (fun _ hk => hk.2) (.slice Ao61 y255.length co61)) (fun _ hk => hk.2) (.slice Ao60 y258.length co60)) (fun _ h_ => h_.1)))); (case side2 => exact (Kd.R_reads' HO257.out).2.1); (case side3 => refine (Kd.R_reads' (e := 49) (base := w.heap.size) (ok := fun k_ => True) (n := y258.length) (c := co60) ?_).2.2; exact (by (with_reducible repeat (first | apply Kd.R_alloc | apply Kd.R_drewN | apply Kd.R_drew)); exact (Kd.R_mono (Kd.R_far (p := ⟨gb261, 2, none⟩) (Kd.R_far (p := ⟨gb261, 1, none⟩) (Kd.R_far (p := ⟨gb261, 0, none⟩) (Kd.R_types HO260.out BK261.out (by decide)) (fun _ hk => hk.2) (.int .i64 3)) (fun _ hk => hk.2) (.slice Ao61 y255.length co61)) (fun _ hk => hk.2) (.slice Ao60 y258.length co60)) (fun _ h_ => h_.1)))); (case side4 => exact (Kd.R_reads' HO260.out).2.1); rintro e w64 ⟨v263, rfl, ho0, hb⟩; refine ⟨_, rfl, ?_⟩; have HO264 := Aside0.mk (Kd.R_lower ho0 (below_size bel)); replace HO257 := Aside0.mk (Kd.R_below (by (with_reducible repeat (first | apply Kd.R_alloc | apply Kd.R_drewN | apply Kd.R_drew)); exact (Kd.R_mono (Kd.R_far (p := ⟨gb261, 2, none⟩) (Kd.R_far (p := ⟨gb261, 1, none⟩) (Kd.R_far (p := ⟨gb261, 0, none⟩) (Kd.R_types HO257.out BK261.out (by decide)) (fun _ hk => hk.2) (.int .i64 3)) (fun _ hk => hk.2) (.slice Ao61 y255.length co61)) (fun _ hk => hk.2) (.slice Ao60 y258.length co60)) (fun _ h_ => h_.1))) hb); replace HO260 := Aside0.mk (Kd.R_below (by (with_reducible repeat (first | apply Kd.R_alloc | apply Kd.R_drewN | apply Kd.R_drew)); exact (Kd.R_mono (Kd.R_far (p := ⟨gb261, 2, none⟩) (Kd.R_far (p := ⟨gb261, 1, none⟩) (Kd.R_far (p := ⟨gb261, 0, none⟩) (Kd.R_types HO260.out BK261.out (by decide)) (fun _ hk => hk.2) (.int .i64 3)) (fun _ hk => hk.2) (.slice Ao61 y255.length co61)) (fun _ hk => hk.2) (.slice Ao60 y258.length co60)) (fun _ h_ => h_.1))) hb); replace BK261 := Aside0.mk (blk_below (g := gb261) (o := .cells #[.int .i64 3, .slice Ao61 y255.length co61, .slice Ao60 y258.length co60] 25 (0, 0)) (by (with_reducible repeat (first | refine blk_drewN ?_ _ | refine blk_drew ?_ | refine blk_alloc ?_ _)); refine blk_put (cs := #[.int .i64 3, .slice Ao61 y255.length co61, .slice none 0 0]) ?_ 2 _ rfl; (with_reducible repeat (first | refine blk_drewN ?_ _ | refine blk_drew ?_ | refine blk_alloc ?_ _)); refine blk_put (cs := #[.int .i64 3, .slice none 0 0, .slice none 0 0]) ?_ 1 _ rfl; (with_reducible repeat (first | refine blk_drewN ?_ _ | refine blk_drew ?_ | refine blk_alloc ?_ _)); refine blk_put (cs := #[.int .i64 0, .slice none 0 0, .slice none 0 0]) ?_ 0 _ rfl; (with_reducible repeat (first | refine blk_drewN ?_ _ | refine blk_drew ?_ | refine blk_alloc ?_ _)); exact BK261.out) hb); replace HB := Aside0.mk (below_step bel hb); (try clear hb); (try clear hb2); (try clear hk); (try clear hi); (try clear ho0)) | ((with_reducible refine gate_dst (N := 20) rfl ?_); (try (refine gate_guard (by rfl) ?_; dsimp only)); refine Kd.R_lit k47 _ 47 ?hg (N := 20) ?hd (xs := ([(⟨0, 1⟩ : S47)] : List (S47))) (inner := [.int .i64 0, .int .i64 1]) (ok := fun _ => True) (okp := fun _ => True) ?hr ?hp (fun _ hk => hk) trivial (Below.refl _ _) (Nat.le_refl _) (by simp) ?_; (case hd => rfl); (case hg => rfl); (case hr => first | (go_simp; done) | (go_simp; rfl)); (case hp => exact (Reps.c2 (show Kd.M k47 _ _ _ (⟨0, 1⟩ : S47) [.int .i64 0, .int .i64 1] from (k47_mkM _ _ _ (⟨0, 1⟩ : S47) )) (Reps.none _ _))); intro v267 w65 ho66 hb hg_ hnew_; clear hg_ hnew_; (first | rw [← Ny266.out] at ho66 | (simp only [Int.reduceToNat] at ho66; rw [← Ny266.out] at ho66)); have HO268 := Aside0.mk (Kd.R_lower (Kd.R_new' ho66 (Kd.R_lt (ownx HO257))) (below_size bel)); replace HO257 := Aside0.mk (Kd.R_elder' (ownx HO257) (Kd.R_base ho66) hb); replace HO260 := Aside0.mk (Kd.R_below (ownx HO260) hb); replace HO264 := Aside0.mk (Kd.R_below (ownx HO264) hb); replace BK261 := Aside0.mk (blk_below (g := gb261) blkz hb); replace HB := Aside0.mk (below_step bel hb); clear hb ho66) | ((with_reducible refine gate_dst (N := 23) rfl ?_); (try (refine gate_guard (by rfl) ?_; dsimp only)); refine Kd.R_lit k49 _ 49 ?hg (N := 23) ?hd (xs := ([(⟨0, 1⟩ : S49), (⟨1, 2⟩ : S49)] : List (S49))) (inner := [.int .i64 0, .int .i64 1, .int .i64 1, .int .i64 2]) (ok := fun _ => True) (okp := fun _ => True) ?hr ?hp (fun _ hk => hk) trivial (Below.refl _ _) (Nat.le_refl _) (by simp) ?_; (case hd => rfl); (case hg => rfl); (case hr => first | (go_simp; done) | (go_simp; rfl)); (case hp => exact (Reps.c2 (show Kd.M k49 _ _ _ (⟨0, 1⟩ : S49) [.int .i64 0, .int .i64 1] from (k49_mkM _ _ _ (⟨0, 1⟩ : S49) )) (Reps.c2 (show Kd.M k49 _ _ _ (⟨1, 2⟩ : S49) [.int .i64 1, .int .i64 2] from (k49_mkM _ _ _ (⟨1, 2⟩ : S49) )) (Reps.none _ _)))); intro v270 w67 ho68 hb hg_ hnew_; clear hg_ hnew_; (first | rw [← Ny269.out] at ho68 | (simp only [Int.reduceToNat] at ho68; rw [← Ny269.out] at ho68)); have HO271 := Aside0.mk (Kd.R_lower (Kd.R_new' ho68 (Kd.R_lt (ownx HO260))) (below_size bel)); replace HO257 := Aside0.mk (Kd.R_below (ownx HO257) hb); replace HO260 := Aside0.mk (Kd.R_elder' (ownx HO260) (Kd.R_base ho68) hb); replace HO264 := Aside0.mk (Kd.R_below (ownx HO264) hb); replace HO268 := Aside0.mk (Kd.R_below (ownx HO268) hb); replace BK261 := Aside0.mk (blk_below (g := gb261) blkz hb); replace HB := Aside0.mk (below_step bel hb); clear hb ho68; obtain ⟨Ao69, co69, eo69⟩ := Kd.R_slice HO271.out; subst eo69; obtain ⟨Ao70, co70, eo70⟩ := Kd.R_slice HO268.out; subst eo70) | ((with_reducible refine gate_callee (f := 21) rfl ?_); refine goesL_ (some 25) rfl rfl Tryd.func21 (by kernel_rfl) rfl #[.agg #[.int .i64 2, .slice Ao70 y266.length co70, .slice Ao69 y269.length co69]] rfl mapz ?_; (with_reducible refine (feed_States.calls k 2 _ _ y266 _ _ y269 t272 t273 _ ?side1 ?side2 ?side3 ?side4 (tbz HT) A2.out).mono ?_); (case side1 => repeat (first | exact (Kd.R_reads' HO268.out).2.2 | (with_reducible refine Kd.C_alloc ?_ _) | (with_reducible refine Kd.C_drewN ?_ _) | (with_reducible refine Kd.C_drew ?_))); (case side2 => exact (Kd.R_reads' HO268.out).2.1); (case side3 => repeat (first | exact (Kd.R_reads' HO271.out).2.2 | (with_reducible refine Kd.C_alloc ?_ _) | (with_reducible refine Kd.C_drewN ?_ _) | (with_reducible refine Kd.C_drew ?_))); (case side4 => exact (Kd.R_reads' HO271.out).2.1); rintro e w71 ⟨rfl, hb⟩; refine ⟨_, rfl, ?_⟩; replace HO257 := Aside0.mk (Kd.R_below (ownx HO257) hb); replace HO260 := Aside0.mk (Kd.R_below (ownx HO260) hb); replace HO264 := Aside0.mk (Kd.R_below (ownx HO264) hb); replace HO268 := Aside0.mk (Kd.R_below (ownx HO268) hb); replace HO271 := Aside0.mk (Kd.R_below (ownx HO271) hb); replace BK261 := Aside0.mk (blk_below (g := gb261) blkz hb); replace HB := Aside0.mk (below_step bel hb); clear hb))
  go_ret
  exact ⟨ezz, bel⟩

/-! ### feed_rule_kept: function 28 -/
def feed_rule_kept.l0 : Nat → List Int → Int → Int → Int → List (S47) → List (S49) → List Int → Option (Int)
 | 0, _, _, _, _, _, _, _ => none
 | k + 1, x6, x7, x8, x275000, x275001, x275002, x275003 => if x8 < x7 then (if 0 ≤ x8 then (if x8 < (x6.length : Int) then (if x8 > 0 then (if 0 ≤ (wrap64 (x8 - 1)) then (if (wrap64 (x8 - 1)) < (x275003.length : Int) then (if (rd x6 x8) ≤ (rd x275003 (wrap64 (x8 - 1))) then (some 2) else (feed_rule_kept.l0 k x6 x7 (wrap64 (x8 + 1)) x275000 x275001 x275002 x275003)) else (none)) else (none)) else (feed_rule_kept.l0 k x6 x7 (wrap64 (x8 + 1)) x275000 x275001 x275002 x275003)) else (none)) else (none)) else ((feed_grid_section.f x275000 x275001 x275002 x275003).bind fun t277 => (some t277))
def feed_rule_kept.f (k : Nat) (a0_0 : Int) (l0_1 : List (S47)) (l0_2 : List (S49)) (l0_3 : List Int) : Option (Int) := feed_rule_kept.l0 k l0_3 (l0_3.length : Int) 0 a0_0 l0_1 l0_2 l0_3
set_option maxHeartbeats 8000000 in
set_option maxRecDepth 100000 in
theorem feed_rule_kept.calls (k : Nat) (a0_0 : Int) (A0_1 : Option Addr) (c0_1 : Nat) (l0_1 : List (S47)) (A0_2 : Option Addr) (c0_2 : Nat) (l0_2 : List (S49)) (A0_3 : Option Addr) (c0_3 : Nat) (l0_3 : List Int) (r : Int) (w : World) (hr0_1 : Kd.C k47 w A0_1 l0_1.length l0_1) (hc0_1 : l0_1.length ≤ c0_1) (hr0_2 : Kd.C k49 w A0_2 l0_2.length l0_2) (hc0_2 : l0_2.length ≤ c0_2) (hr0_3 : Kd.C (Kd.int .i64) w A0_3 l0_3.length l0_3) (hc0_3 : l0_3.length ≤ c0_3) (h : feed_rule_kept.f k a0_0 l0_1 l0_2 l0_3 = some r) :
  Calls Tryd.prog 28 #[.agg #[.int .i64 a0_0, .slice A0_1 l0_1.length c0_1, .slice A0_2 l0_2.length c0_2, .slice A0_3 l0_3.length c0_3]] w fun e w' => e = .returned (.int .i64 r) ∧ Below w.heap.size w w' := by
 have hu56 := Tryd.underlying56
 have hu54 := Tryd.underlying54
 have HR0_1 := Aside0.mk hr0_1
 have HC0_1 := Aside0.mk hc0_1
 clear hr0_1 hc0_1
 have HR0_2 := Aside0.mk hr0_2
 have HC0_2 := Aside0.mk hc0_2
 clear hr0_2 hc0_2
 have HR0_3 := Aside0.mk hr0_3
 have HC0_3 := Aside0.mk hc0_3
 clear hr0_3 hc0_3
 have HB := Aside0.mk (Below.refl w.heap.size w)
 have H : (feed_rule_kept.l0 k l0_3 (l0_3.length : Int) 0 a0_0 l0_1 l0_2 l0_3) = some r := h
 clear h
 have H' := Aside0.mk H
 clear H
 go_enter Tryd.func28, Tryd.ntmps28
 go_wp2_with (first | ((with_reducible refine gate_dst (N := 1) rfl ?_); refine box_event ?hg (N := 1) ?hd (cs := #[.int .i64 a0_0, .slice A0_1 l0_1.length c0_1, .slice A0_2 l0_2.length c0_2, .slice A0_3 l0_3.length c0_3]) (t := 56) ?hr ?_; (case hd => rfl); (case hg => rfl); (case hr => first | (go_simp; done) | (go_simp; rfl)); intro gb274 hg w2 hbox hb; have BK274 := Aside0.mk (hbox); have GW274 := bsz (w := w) hg; have GE274 := GW274; replace HB := Aside0.mk (below_step bel hb); clear hb hbox hg; obtain ⟨hcz3_0, hcz3_1, hcz3_2, hcz3_3⟩ := bc4 BK274.out))
 go_loopg [8] k (fun kq v8 w' => ∃ (x8_1 : Int), v8 = .int .i64 x8_1 ∧ Aside0 (feed_rule_kept.l0 kq l0_3 (l0_3.length : Int) x8_1 a0_0 l0_1 l0_2 l0_3 = some r) ∧ Aside0 (kq ≤ k) ∧ Aside0 (w'.heap[gb274]? = some (.cells #[.int .i64 a0_0, (.slice A0_1 l0_1.length c0_1), (.slice A0_2 l0_2.length c0_2), (.slice A0_3 l0_3.length c0_3)] 56 (0, 0))) ∧ Aside0 (Below w.heap.size w w'))
 case atStart => exact ⟨(0), rsz, H', ⟨Nat.le_refl _⟩, ⟨blkz⟩, ⟨bel⟩⟩
 case round =>
  clear H'
  (try clear c2); (try clear p2); (try clear hcz3_0); (try clear hcz3_1); (try clear hcz3_2); (try clear hcz3_3); (try clear hfz3_0); (try clear hfz3_1); (try clear hfz3_2); (try clear hfz3_3)
  obtain ⟨x8_1, rfl, HA, HK1, BK274, HB⟩ := hrel
  cases gk with
  | zero => exact absurd HA.out (by simp [feed_rule_kept.l0])
  | succ k1 =>
   have H := HA.out
   clear HA
   simp only [feed_rule_kept.l0] at H
   by_cases c4 : x8_1 < (l0_3.length : Int)
   ·
    rw [if_pos c4] at H
    have c4b0 : decide (x8_1 < (l0_3.length : Int)) = true := decide_eq_true c4
    clear c4
    by_cases c5 : 0 ≤ x8_1
    ·
     rw [if_pos c5] at H
     have c5b0 : decide (0 ≤ x8_1) = true := decide_eq_true c5
     clear c5
     by_cases c6 : x8_1 < (l0_3.length : Int)
     ·
      rw [if_pos c6] at H
      have c6b0 : decide (x8_1 < (l0_3.length : Int)) = true := decide_eq_true c6
      clear c6
      by_cases c7 : x8_1 > 0
      ·
       rw [if_pos c7] at H
       have c7b0 : decide (0 < x8_1) = true := decide_eq_true c7
       clear c7
       obtain ⟨ji8, hji8⟩ : ∃ j_ : Int, (wrap64 (x8_1 - 1)) = j_ := ⟨_, rfl⟩
       replace H : (if 0 ≤ (ji8) then (if (ji8) < (l0_3.length : Int) then (if (rd l0_3 x8_1) ≤ (rd l0_3 (ji8)) then (some 2) else (feed_rule_kept.l0 k1 l0_3 (l0_3.length : Int) (wrap64 (x8_1 + 1)) a0_0 l0_1 l0_2 l0_3)) else (none)) else (none)) = some r := by first | (rw [hji8] at H; exact H) | (simp only [hji8] at H ⊢; exact H)
       have hji8w : (IntKind.i64.wrap (x8_1 - 1)) = ji8 := (i64_w _).trans hji8
       by_cases c9 : 0 ≤ (ji8)
       ·
        rw [if_pos c9] at H
        have c9b0 : decide (0 ≤ (ji8)) = true := decide_eq_true c9
        clear c9
        by_cases c10 : (ji8) < (l0_3.length : Int)
        ·
         rw [if_pos c10] at H
         have c10b0 : decide ((ji8) < (l0_3.length : Int)) = true := decide_eq_true c10
         clear c10
         by_cases c11 : (rd l0_3 x8_1) ≤ (rd l0_3 (ji8))
         ·
          rw [if_pos c11] at H
          have c11b0 : decide ((rd l0_3 x8_1) ≤ (rd l0_3 (ji8))) = true := decide_eq_true c11
          clear c11
          obtain rfl := Option.some.inj H
          have p275 : 0 ≤ (x8_1 : Int) := of_decide_eq_true asz
          have q275 : x8_1 < (l0_3.length : Int) := of_decide_eq_true asz
          obtain ⟨ad275, e275, hx275_0⟩ := Kd.at_int HR0_3.out x8_1 p275 q275
          cases e275
          replace hx275_0 := (HB.out.cell (World.block_lt_of_cell? w _ hx275_0)).trans hx275_0
          replace p275 := eq_true p275
          replace q275 := eq_true q275
          obtain ⟨hcz12_0, hcz12_1, hcz12_2, hcz12_3⟩ := bc4 BK274.out
          obtain ⟨hfz12_0, hfz12_1, hfz12_2, hfz12_3⟩ := bf4 BK274.out
          have p276 : 0 ≤ ((ji8) : Int) := of_decide_eq_true asz
          have q276 : (ji8) < (l0_3.length : Int) := of_decide_eq_true asz
          obtain ⟨ad276, e276, hx276_0⟩ := Kd.at_int HR0_3.out (ji8) p276 q276
          obtain rfl : ad275 = ad276 := (by injection e276)
          replace hx276_0 := (HB.out.cell (World.block_lt_of_cell? w _ hx276_0)).trans hx276_0
          replace p276 := eq_true p276
          replace q276 := eq_true q276
          go_wp2
          go_ret
          exact ⟨by first | rfl | (simp [errW_none, errW_some] <;> rfl) | (simp only [← hji8]; first | rfl | (simp [errW_none, errW_some] <;> rfl)) | (simp [*, errW_none, errW_some] <;> rfl), bel⟩
         ·
          rw [if_neg c11] at H
          have c11b0 : decide ((rd l0_3 x8_1) ≤ (rd l0_3 (ji8))) = false := decide_eq_false c11
          clear c11
          have H' := Aside0.mk H
          clear H
          have p275 : 0 ≤ (x8_1 : Int) := of_decide_eq_true asz
          have q275 : x8_1 < (l0_3.length : Int) := of_decide_eq_true asz
          obtain ⟨ad275, e275, hx275_0⟩ := Kd.at_int HR0_3.out x8_1 p275 q275
          cases e275
          replace hx275_0 := (HB.out.cell (World.block_lt_of_cell? w _ hx275_0)).trans hx275_0
          replace p275 := eq_true p275
          replace q275 := eq_true q275
          obtain ⟨hcz13_0, hcz13_1, hcz13_2, hcz13_3⟩ := bc4 BK274.out
          obtain ⟨hfz13_0, hfz13_1, hfz13_2, hfz13_3⟩ := bf4 BK274.out
          have p276 : 0 ≤ ((ji8) : Int) := of_decide_eq_true asz
          have q276 : (ji8) < (l0_3.length : Int) := of_decide_eq_true asz
          obtain ⟨ad276, e276, hx276_0⟩ := Kd.at_int HR0_3.out (ji8) p276 q276
          obtain rfl : ad275 = ad276 := (by injection e276)
          replace hx276_0 := (HB.out.cell (World.block_lt_of_cell? w _ hx276_0)).trans hx276_0
          replace p276 := eq_true p276
          replace q276 := eq_true q276
          go_wp2
          go_roundg k1
          case measure => have := HK1.out; omega
          case rel => exact ⟨(wrap64 (x8_1 + 1)), rsz, H', ⟨by have := HK1.out; omega⟩, ⟨blkz⟩, ⟨bel⟩⟩
        ·
         rw [if_neg c10] at H
         exact absurd H (by simp)
       ·
        rw [if_neg c9] at H
        exact absurd H (by simp)
      ·
       rw [if_neg c7] at H
       have c7b0 : decide (0 < x8_1) = false := decide_eq_false c7
       clear c7
       have H' := Aside0.mk H
       clear H
       have p275 : 0 ≤ (x8_1 : Int) := of_decide_eq_true asz
       have q275 : x8_1 < (l0_3.length : Int) := of_decide_eq_true asz
       obtain ⟨ad275, e275, hx275_0⟩ := Kd.at_int HR0_3.out x8_1 p275 q275
       cases e275
       replace hx275_0 := (HB.out.cell (World.block_lt_of_cell? w _ hx275_0)).trans hx275_0
       replace p275 := eq_true p275
       replace q275 := eq_true q275
       go_wp2
       go_roundg k1
       case measure => have := HK1.out; omega
       case rel => exact ⟨(wrap64 (x8_1 + 1)), rsz, H', ⟨by have := HK1.out; omega⟩, ⟨blkz⟩, ⟨bel⟩⟩
     ·
      rw [if_neg c6] at H
      exact absurd H (by simp)
    ·
     rw [if_neg c5] at H
     exact absurd H (by simp)
   ·
    rw [if_neg c4] at H
    have c4b0 : decide (x8_1 < (l0_3.length : Int)) = false := decide_eq_false c4
    clear c4
    replace H := Option.bind_eq_some_iff.mp H
    obtain ⟨t277, A140, H⟩ := H
    try dsimp only at H
    have A14 := Aside0.mk A140
    clear A140
    obtain rfl := Option.some.inj H
    obtain ⟨hcz15_0, hcz15_1, hcz15_2, hcz15_3⟩ := bc4 BK274.out
    obtain ⟨hfz15_0, hfz15_1, hfz15_2, hfz15_3⟩ := bf4 BK274.out
    go_wp2_with (first | ((with_reducible refine gate_callee (f := 52) rfl ?_); refine goesL_ (some 30) rfl rfl Tryd.func52 (by kernel_rfl) rfl #[.agg #[.int .i64 a0_0, .slice A0_1 l0_1.length c0_1, .slice A0_2 l0_2.length c0_2], .slice A0_3 l0_3.length c0_3] rfl mapz ?_; (with_reducible refine (feed_grid_section.calls a0_0 _ _ l0_1 _ _ l0_2 _ _ l0_3 t277 _ (cbz HR0_1) HC0_1.out (cbz HR0_2) HC0_2.out (cbz HR0_3) HC0_3.out A14.out).mono ?_); rintro e w16 ⟨rfl, hb⟩; refine ⟨_, rfl, ?_⟩; replace BK274 := Aside0.mk (blk_below (g := gb274) blkz hb); replace HB := Aside0.mk (below_step bel hb); clear hb))
    go_ret
    exact ⟨ezz, bel⟩

/-! ### feed_rule_keeps: function 29 -/
def feed_rule_keeps.p (t : List Int) (x : Int) : Bool := rd t x == 0
set_option maxHeartbeats 2000000 in
set_option maxRecDepth 100000 in
theorem feed_rule_keeps.clos (t : List Int) (g : Nat) (v0 : Value) (base : Nat) (ok : Nat → Prop) (x : Int) (w : World) (hcap : w.cell? ⟨g, 0, none⟩ = some v0) (hv : Kd.R (Kd.int .u64) 80 w base ok v0 t) (h0 : 0 ≤ x) (h1 : x < (t.length : Int)) :
  Calls Tryd.prog 54 #[.int .i64 x, .pointer (some ⟨g, 0, none⟩)] w fun e w' => e = .returned (.bool (feed_rule_keeps.p t x)) ∧ Below w.heap.size w w' := by
 obtain ⟨A, c, rfl, hlc, hC⟩ := Kd.R_reads hv
 have hl : t.length ≤ 9223372036854775807 := hC.2.1
 obtain ⟨ad, e1, hx0⟩ := Kd.at_int hC x h0 h1
 cases e1
 have HH := Aside0.mk hv
 clear hv hC
 replace h0 := eq_true h0
 replace h1 := eq_true h1
 go_enter Tryd.func54, Tryd.ntmps54
 go_wp2
 go_ret
 exact ⟨rfl, by repeat (first | exact Below.refl _ _ | apply pw_below_drewN)⟩
theorem feed_rule_keeps.enter (vs : Array Value) (W : World) : (callFunc 54 vs).run Tryd.prog W = .ok (.enter 54 vs) W := enters_ Tryd.func54 (by kernel_rfl) (by kernel_rfl) vs W
def feed_rule_keeps.f (k : Nat) (a0_0 : Int) (l0_1 : List S47) (l0_2 : List S49) (l0_3 : List Int) (a1 : Int) : Option Bool :=
 (feed_grid_fed.f k a0_0 l0_1 l0_2 a1).bind fun t => (feed_grid_right.f k a0_0 l0_1 l0_2 a1).bind fun b => if b = true then (if (l0_3.all fun x => decide (0 ≤ x) && decide (x < (t.length : Int))) = true then some (!(l0_3.any (feed_rule_keeps.p t))) else none) else some false
set_option maxHeartbeats 4000000 in
set_option maxRecDepth 100000 in
theorem feed_rule_keeps.calls (k : Nat) (a0_0 : Int) (A0_1 : Option Addr) (c0_1 : Nat) (l0_1 : List S47) (A0_2 : Option Addr) (c0_2 : Nat) (l0_2 : List S49) (A0_3 : Option Addr) (c0_3 : Nat) (l0_3 : List Int) (a1 : Int) (r : Bool) (w : World) (hr0_1 : Kd.C k47 w A0_1 l0_1.length l0_1) (hc0_1 : l0_1.length ≤ c0_1) (hr0_2 : Kd.C k49 w A0_2 l0_2.length l0_2) (hc0_2 : l0_2.length ≤ c0_2) (hr0_3 : Kd.C (Kd.int .i64) w A0_3 l0_3.length l0_3) (hc0_3 : l0_3.length ≤ c0_3) (hT : Tab.Tabs w) (h : feed_rule_keeps.f k a0_0 l0_1 l0_2 l0_3 a1 = some r) :
  Calls Tryd.prog 29 #[.agg #[.int .i64 a0_0, .slice A0_1 l0_1.length c0_1, .slice A0_2 l0_2.length c0_2, .slice A0_3 l0_3.length c0_3], .int .i64 a1] w fun e w' => e = .returned (.bool r) ∧ Below w.heap.size w w' := by
 have hu := Tryd.underlying25
 have hu2 := Tryd.underlying54
 have hu3 := Tryd.underlying56
 have HT := Aside0.mk hT
 have HR1 := Aside0.mk hr0_1
 have HR2 := Aside0.mk hr0_2
 have HR3 := Aside0.mk hr0_3
 clear hr0_1 hr0_2 hr0_3 hT
 unfold feed_rule_keeps.f at h
 obtain ⟨t, ht, h⟩ := Option.bind_eq_some_iff.1 h
 obtain ⟨b, hb, h⟩ := Option.bind_eq_some_iff.1 h
 have HF := Aside0.mk ht
 have HG := Aside0.mk hb
 have HH := Aside0.mk h
 clear ht hb h
 obtain ⟨w1, hw1⟩ : ∃ w1, w1 = w.alloc (.cells #[.int .i64 a0_0, .slice A0_1 l0_1.length c0_1, .slice A0_2 l0_2.length c0_2, .slice A0_3 l0_3.length c0_3] 56) := ⟨_, rfl⟩
 have hB1 : Aside0 (Below w.heap.size w w1) := ⟨by rw [hw1]; exact below_alloc (Below.refl _ _) _⟩
 have hz1 : w1.heap.size = w.heap.size + 1 := by rw [hw1]; exact Array.size_push ..
 have hcell : Aside0 (∀ W, Below w1.heap.size w1 W → ∀ j, W.cell? ⟨w.heap.size, j, none⟩ = (#[.int .i64 a0_0, .slice A0_1 l0_1.length c0_1, .slice A0_2 l0_2.length c0_2, .slice A0_3 l0_3.length c0_3] : Array Value)[j]?) := ⟨fun W hb j => by
  rw [hb.cell (by show w.heap.size < _; omega), hw1, World.cell?_alloc_at _ _ _ _ rfl]⟩
 have hW1 : Aside0 (w1 = w.alloc (.cells #[.int .i64 a0_0, .slice A0_1 l0_1.length c0_1, .slice A0_2 l0_2.length c0_2, .slice A0_3 l0_3.length c0_3] 56)) := ⟨hw1⟩
 have hs1 := Aside0.mk hz1
 have hc0 := (hcell.out w1 (Below.refl _ _) 0)
 have hc1 := (hcell.out w1 (Below.refl _ _) 1)
 have hc2 := (hcell.out w1 (Below.refl _ _) 2)
 clear hw1 hz1
 cases b with
 | false =>
  obtain rfl := Option.some.inj HH.out
  go_enter Tryd.func29, Tryd.ntmps29
  go_wp2_with (first
   | (go_at_call 53; rw [← hW1.out]; (refine (feed_grid_fed.calls k a0_0 _ c0_1 l0_1 _ c0_2 l0_2 a1 t _ (Kd.C_below HR1.out hB1.out) hc0_1 (Kd.C_below HR2.out hB1.out) hc0_2 HF.out).mono ?_); rintro e w2 ⟨v0, rfl, hv, hb⟩; obtain ⟨Af, cf, hve, _, _⟩ := Kd.R_reads hv; subst hve; have HV := Aside0.mk hv; have HB12 := Aside0.mk (below_step hB1.out hb); have HQ := Aside0.mk (fun W hB => hcell.out W (below_step hb hB)); have hq0 := fun o => HQ.out (w2.alloc o) (below_alloc (Below.refl _ _) o) 0; have hq1 := fun o => HQ.out (w2.alloc o) (below_alloc (Below.refl _ _) o) 1; have hq2 := fun o => HQ.out (w2.alloc o) (below_alloc (Below.refl _ _) o) 2; have hq3 := fun o => HQ.out (w2.alloc o) (below_alloc (Below.refl _ _) o) 3; have hne := Aside0.mk (show w.heap.size + 1 ≤ w2.heap.size by have := hb.size; have := hs1.out; omega); clear hv hb)
   | (go_at_call 44; (refine (feed_grid_right.calls k a0_0 _ c0_1 l0_1 _ c0_2 l0_2 a1 false _ (Kd.C_below HR1.out (below_alloc HB12.out _)) hc0_1 (Kd.C_below HR2.out (below_alloc HB12.out _)) hc0_2 (Tab.Tabs.below HT.out (below_alloc HB12.out _)) HG.out).mono ?_); rintro e w3 ⟨rfl, hb⟩; have HB3 := Aside0.mk (below_step (below_alloc HB12.out _) hb); have HC := Aside0.mk (Kd.R_below (Kd.R_alloc HV.out _) hb); have hcap := Aside0.mk ((hb.cell (p := ⟨w2.heap.size, 0, none⟩) (by show w2.heap.size < (w2.heap.push _).size; rw [Array.size_push]; omega)).trans (World.cell?_alloc_at _ _ _ _ rfl)); have hq3_ := HQ.out w3 (below_step (below_alloc (Below.refl _ _) _) hb) 3; clear hb))
  go_ret
  exact ⟨rfl, HB3.out⟩
 | true =>
  by_cases hall : (l0_3.all fun x => decide (0 ≤ x) && decide (x < (t.length : Int))) = true
  ·
   have h2 := HH.out
   rw [if_pos rfl, if_pos hall] at h2
   obtain rfl := Option.some.inj h2
   have HA : Aside0 (∀ x ∈ l0_3, 0 ≤ x ∧ x < (t.length : Int)) := ⟨fun x hx => by
    have := List.all_eq_true.1 hall x hx
    simpa using this⟩
   clear h2 hall HH
   by_cases h3 : l0_3.any (feed_rule_keeps.p t) = true
   ·
    rw [h3]
    have H3 := Aside0.mk h3
    clear h3
    go_enter Tryd.func29, Tryd.ntmps29
    go_wp2_with (first
     | (go_at_call 53; rw [← hW1.out]; (refine (feed_grid_fed.calls k a0_0 _ c0_1 l0_1 _ c0_2 l0_2 a1 t _ (Kd.C_below HR1.out hB1.out) hc0_1 (Kd.C_below HR2.out hB1.out) hc0_2 HF.out).mono ?_); rintro e w2 ⟨v0, rfl, hv, hb⟩; obtain ⟨Af, cf, hve, _, _⟩ := Kd.R_reads hv; subst hve; have HV := Aside0.mk hv; have HB12 := Aside0.mk (below_step hB1.out hb); have HQ := Aside0.mk (fun W hB => hcell.out W (below_step hb hB)); have hq0 := fun o => HQ.out (w2.alloc o) (below_alloc (Below.refl _ _) o) 0; have hq1 := fun o => HQ.out (w2.alloc o) (below_alloc (Below.refl _ _) o) 1; have hq2 := fun o => HQ.out (w2.alloc o) (below_alloc (Below.refl _ _) o) 2; have hq3 := fun o => HQ.out (w2.alloc o) (below_alloc (Below.refl _ _) o) 3; have hne := Aside0.mk (show w.heap.size + 1 ≤ w2.heap.size by have := hb.size; have := hs1.out; omega); clear hv hb)
     | (go_at_call 44; (refine (feed_grid_right.calls k a0_0 _ c0_1 l0_1 _ c0_2 l0_2 a1 true _ (Kd.C_below HR1.out (below_alloc HB12.out _)) hc0_1 (Kd.C_below HR2.out (below_alloc HB12.out _)) hc0_2 (Tab.Tabs.below HT.out (below_alloc HB12.out _)) HG.out).mono ?_); rintro e w3 ⟨rfl, hb⟩; have HB3 := Aside0.mk (below_step (below_alloc HB12.out _) hb); have HC := Aside0.mk (Kd.R_below (Kd.R_alloc HV.out _) hb); have hcap := Aside0.mk ((hb.cell (p := ⟨w2.heap.size, 0, none⟩) (by show w2.heap.size < (w2.heap.push _).size; rw [Array.size_push]; omega)).trans (World.cell?_alloc_at _ _ _ _ rfl)); have hq3_ := HQ.out w3 (below_step (below_alloc (Below.refl _ _) _) hb) 3; have hlt3 := Aside0.mk (show w2.heap.size < w3.heap.size by have := hb.size; have h1 : (w2.alloc (.cells #[.slice Af t.length cf] 86)).heap.size = w2.heap.size + 1 := Array.size_push ..; omega); clear hb)
     | (go_at_call 30; (refine (slices_ContainsFunc_int_int.contains 54 #[.pointer (some ⟨w2.heap.size, 0, none⟩)] (feed_rule_keeps.p t) _ c0_3 l0_3 _ (Kd.C_below HR3.out HB3.out) hc0_3 feed_rule_keeps.enter (fun x hx W hB => feed_rule_keeps.clos t w2.heap.size _ _ _ x W ((hB.cell (p := ⟨w2.heap.size, 0, none⟩) hlt3.out).trans hcap.out) (Kd.R_below HC.out hB) (HA.out x hx).1 (HA.out x hx).2)).mono ?_); rintro e w4 ⟨rfl, hb⟩; have HB4 := Aside0.mk (below_step HB3.out hb); clear hb; rw [H3.out]))
    go_ret
    exact ⟨rfl, HB4.out⟩
   ·
    replace h3 := Bool.eq_false_iff.mpr h3
    rw [h3]
    have H3 := Aside0.mk h3
    clear h3
    go_enter Tryd.func29, Tryd.ntmps29
    go_wp2_with (first
     | (go_at_call 53; rw [← hW1.out]; (refine (feed_grid_fed.calls k a0_0 _ c0_1 l0_1 _ c0_2 l0_2 a1 t _ (Kd.C_below HR1.out hB1.out) hc0_1 (Kd.C_below HR2.out hB1.out) hc0_2 HF.out).mono ?_); rintro e w2 ⟨v0, rfl, hv, hb⟩; obtain ⟨Af, cf, hve, _, _⟩ := Kd.R_reads hv; subst hve; have HV := Aside0.mk hv; have HB12 := Aside0.mk (below_step hB1.out hb); have HQ := Aside0.mk (fun W hB => hcell.out W (below_step hb hB)); have hq0 := fun o => HQ.out (w2.alloc o) (below_alloc (Below.refl _ _) o) 0; have hq1 := fun o => HQ.out (w2.alloc o) (below_alloc (Below.refl _ _) o) 1; have hq2 := fun o => HQ.out (w2.alloc o) (below_alloc (Below.refl _ _) o) 2; have hq3 := fun o => HQ.out (w2.alloc o) (below_alloc (Below.refl _ _) o) 3; have hne := Aside0.mk (show w.heap.size + 1 ≤ w2.heap.size by have := hb.size; have := hs1.out; omega); clear hv hb)
     | (go_at_call 44; (refine (feed_grid_right.calls k a0_0 _ c0_1 l0_1 _ c0_2 l0_2 a1 true _ (Kd.C_below HR1.out (below_alloc HB12.out _)) hc0_1 (Kd.C_below HR2.out (below_alloc HB12.out _)) hc0_2 (Tab.Tabs.below HT.out (below_alloc HB12.out _)) HG.out).mono ?_); rintro e w3 ⟨rfl, hb⟩; have HB3 := Aside0.mk (below_step (below_alloc HB12.out _) hb); have HC := Aside0.mk (Kd.R_below (Kd.R_alloc HV.out _) hb); have hcap := Aside0.mk ((hb.cell (p := ⟨w2.heap.size, 0, none⟩) (by show w2.heap.size < (w2.heap.push _).size; rw [Array.size_push]; omega)).trans (World.cell?_alloc_at _ _ _ _ rfl)); have hq3_ := HQ.out w3 (below_step (below_alloc (Below.refl _ _) _) hb) 3; have hlt3 := Aside0.mk (show w2.heap.size < w3.heap.size by have := hb.size; have h1 : (w2.alloc (.cells #[.slice Af t.length cf] 86)).heap.size = w2.heap.size + 1 := Array.size_push ..; omega); clear hb)
     | (go_at_call 30; (refine (slices_ContainsFunc_int_int.contains 54 #[.pointer (some ⟨w2.heap.size, 0, none⟩)] (feed_rule_keeps.p t) _ c0_3 l0_3 _ (Kd.C_below HR3.out HB3.out) hc0_3 feed_rule_keeps.enter (fun x hx W hB => feed_rule_keeps.clos t w2.heap.size _ _ _ x W ((hB.cell (p := ⟨w2.heap.size, 0, none⟩) hlt3.out).trans hcap.out) (Kd.R_below HC.out hB) (HA.out x hx).1 (HA.out x hx).2)).mono ?_); rintro e w4 ⟨rfl, hb⟩; have HB4 := Aside0.mk (below_step HB3.out hb); clear hb; rw [H3.out]))
    go_ret
    exact ⟨rfl, HB4.out⟩
  ·
   have h2 := HH.out
   rw [if_pos rfl, if_neg hall] at h2
   cases h2

/-! ### feed_ruled: function 22 -/
def feed_ruled.f (k : Nat) (a0_0 : Int) (l0_1 : List (S47)) (l0_2 : List (S49)) (a1 : Int) (l2 : List Int) : Option (Int × Int) := (feed_Valid.f a0_0 l0_1 l0_2).bind fun t281 => (if t281 = true then ((feed_rule_kept.f k a0_0 l0_1 l0_2 l2).bind fun t282 => (if t282 = 0 then ((feed_grid_all.f a0_0 l0_1 l0_2).bind fun t283 => ((feed_within.f 0 a1 (wrap64 (t283 - 1))).bind fun t284 => (if t284 = true then ((feed_rule_keeps.f k a0_0 l0_1 l0_2 l2 a1).bind fun t285 => (if t285 = true then (some (a0_0, 0)) else (some (a0_0, 51)))) else (some (a0_0, 51))))) else (some (a0_0, t282)))) else (some (a0_0, 50)))
set_option maxHeartbeats 8000000 in
set_option maxRecDepth 100000 in
theorem feed_ruled.calls (k : Nat) (a0_0 : Int) (A0_1 : Option Addr) (c0_1 : Nat) (l0_1 : List (S47)) (A0_2 : Option Addr) (c0_2 : Nat) (l0_2 : List (S49)) (a1 : Int) (A2 : Option Addr) (c2 : Nat) (l2 : List Int) (r1 : Int) (r2 : Int) (w : World) (hr0_1 : Kd.C k47 w A0_1 l0_1.length l0_1) (hc0_1 : l0_1.length ≤ c0_1) (hr0_2 : Kd.C k49 w A0_2 l0_2.length l0_2) (hc0_2 : l0_2.length ≤ c0_2) (hr2 : Kd.C (Kd.int .i64) w A2 l2.length l2) (hc2 : l2.length ≤ c2) (hT : Tab.Tabs w) (h : feed_ruled.f k a0_0 l0_1 l0_2 a1 l2 = some (r1, r2)) :
  Calls Tryd.prog 22 #[.agg #[.int .i64 a0_0, .slice A0_1 l0_1.length c0_1, .slice A0_2 l0_2.length c0_2], .int .i64 a1, .slice A2 l2.length c2] w fun e w' => e = .returned (.tuple #[.agg #[.int .i64 r1, .slice A0_1 l0_1.length c0_1, .slice A0_2 l0_2.length c0_2, .slice A2 l2.length c2], .int .i64 r2]) ∧ Below w.heap.size w w' := by
 have HT := Aside0.mk hT
 clear hT
 have hu25 := Tryd.underlying25
 have hu56 := Tryd.underlying56
 have hu54 := Tryd.underlying54
 have HR0_1 := Aside0.mk hr0_1
 have HC0_1 := Aside0.mk hc0_1
 clear hr0_1 hc0_1
 have HR0_2 := Aside0.mk hr0_2
 have HC0_2 := Aside0.mk hc0_2
 clear hr0_2 hc0_2
 have HR2 := Aside0.mk hr2
 have HC2 := Aside0.mk hc2
 clear hr2 hc2
 have HB := Aside0.mk (Below.refl w.heap.size w)
 have H : ((feed_Valid.f a0_0 l0_1 l0_2).bind fun t281 => (if t281 = true then ((feed_rule_kept.f k a0_0 l0_1 l0_2 l2).bind fun t282 => (if t282 = 0 then ((feed_grid_all.f a0_0 l0_1 l0_2).bind fun t283 => ((feed_within.f 0 a1 (wrap64 (t283 - 1))).bind fun t284 => (if t284 = true then ((feed_rule_keeps.f k a0_0 l0_1 l0_2 l2 a1).bind fun t285 => (if t285 = true then (some (a0_0, 0)) else (some (a0_0, 51)))) else (some (a0_0, 51))))) else (some (a0_0, t282)))) else (some (a0_0, 50)))) = some (r1, r2) := h
 clear h
 replace H := Option.bind_eq_some_iff.mp H
 obtain ⟨t281, A40, H⟩ := H
 try dsimp only at H
 have A4 := Aside0.mk A40
 clear A40
 by_cases c5 : t281 = true
 ·
  subst c5
  rw [if_pos rfl] at H
  replace H := Option.bind_eq_some_iff.mp H
  obtain ⟨t282, A60, H⟩ := H
  try dsimp only at H
  have A6 := Aside0.mk A60
  clear A60
  by_cases c7 : t282 = 0
  ·
   rw [if_pos c7] at H
   have c7b0 : (t282 == 0) = true := beq_iff_eq.mpr c7
   have c7b1 : (t282 != 0) = false := bne_eq_false_iff_eq.mpr c7
   clear c7
   replace H := Option.bind_eq_some_iff.mp H
   obtain ⟨t283, A80, H⟩ := H
   try dsimp only at H
   have A8 := Aside0.mk A80
   clear A80
   replace H := Option.bind_eq_some_iff.mp H
   obtain ⟨t284, A90, H⟩ := H
   try dsimp only at H
   have A9 := Aside0.mk A90
   clear A90
   by_cases c10 : t284 = true
   ·
    subst c10
    rw [if_pos rfl] at H
    replace H := Option.bind_eq_some_iff.mp H
    obtain ⟨t285, A110, H⟩ := H
    try dsimp only at H
    have A11 := Aside0.mk A110
    clear A110
    by_cases c12 : t285 = true
    ·
     subst c12
     rw [if_pos rfl] at H
     simp only [Option.some.injEq, Prod.mk.injEq] at H
     obtain ⟨rfl, rfl⟩ := H
     go_enter Tryd.func22, Tryd.ntmps22
     go_wp2_with (first | ((with_reducible refine gate_dst (N := 3) rfl ?_); refine box_event ?hg (N := 3) ?hd (cs := #[.int .i64 a0_0, .slice A0_1 l0_1.length c0_1, .slice A0_2 l0_2.length c0_2]) (t := 25) ?hr ?_; (case hd => rfl); (case hg => rfl); (case hr => first | (go_simp; done) | (go_simp; rfl)); intro gb278 hg w13 hbox hb; have BK278 := Aside0.mk (hbox); have GW278 := bsz (w := w) hg; have GE278 := GW278; replace HB := Aside0.mk (below_step bel hb); clear hb hbox hg) | ((with_reducible refine gate_dst (N := 6) rfl ?_); refine box_event ?hg (N := 6) ?hd (cs := #[.int .i64 0, .slice none 0 0, .slice none 0 0, .slice none 0 0]) (t := 56) ?hr ?_; (case hd => rfl); (case hg => rfl); (case hr => first | (go_simp; done) | (go_simp; rfl)); intro gb279 hg w14 hbox hb; have BK279 := Aside0.mk (hbox); have GW279 := bsz (w := w) hg; have GE279 := GW279; have NB278_279 := neL (g := gb278) hg; have NB279_278 := neR (g := gb278) hg; replace BK278 := Aside0.mk (blk_below (g := gb278) blkz hb); replace HB := Aside0.mk (below_step bel hb); clear hb hbox hg; have hnb15 := NB278_279.out; have hnc15 := NB279_278.out; obtain ⟨hcz16_0, hcz16_1, hcz16_2⟩ := bc3 BK278.out) | ((with_reducible refine gate_dst (N := 8) rfl ?_); refine box_event ?hg (N := 8) ?hd (cs := #[.int .i64 0, .slice none 0 0, .slice none 0 0, .slice none 0 0]) (t := 56) ?hr ?_; (case hd => rfl); (case hg => rfl); (case hr => first | (go_simp; done) | (go_simp; rfl)); intro gb280 hg w17 hbox hb; have BK280 := Aside0.mk (hbox); have GW280 := bsz (w := w) hg; have GE280 := GW280; have NB278_280 := neL (g := gb278) hg; have NB280_278 := neR (g := gb278) hg; have NB279_280 := neL (g := gb279) hg; have NB280_279 := neR (g := gb279) hg; replace BK278 := Aside0.mk (blk_below (g := gb278) blkz hb); replace BK279 := Aside0.mk (blk_below (g := gb279) blkz hb); replace HB := Aside0.mk (below_step bel hb); clear hb hbox hg; have hnb18 := NB280_278.out; have hnc18 := NB278_280.out; have hnb19 := NB280_279.out; have hnc19 := NB279_280.out; obtain ⟨hcz20_0, hcz20_1, hcz20_2, hcz20_3⟩ := bc4 BK280.out; obtain ⟨hfz20_0, hfz20_1, hfz20_2, hfz20_3⟩ := bf4 BK280.out; obtain ⟨hcz21_0, hcz21_1, hcz21_2⟩ := bc3 BK278.out) | ((with_reducible refine gate_callee (f := 27) rfl ?_); refine goesL_ (some 15) rfl rfl Tryd.func27 (by kernel_rfl) rfl #[.agg #[.int .i64 a0_0, .slice A0_1 l0_1.length c0_1, .slice A0_2 l0_2.length c0_2]] rfl mapz ?_; (with_reducible refine (feed_Valid.calls a0_0 _ _ l0_1 _ _ l0_2 true _ (cbz HR0_1) HC0_1.out (cbz HR0_2) HC0_2.out A4.out).mono ?_); rintro e w22 ⟨rfl, hb⟩; refine ⟨_, rfl, ?_⟩; replace BK278 := Aside0.mk (blk_below (g := gb278) (o := .cells #[.int .i64 a0_0, .slice A0_1 l0_1.length c0_1, .slice A0_2 l0_2.length c0_2] 25 (0, 0)) (by (with_reducible repeat (first | refine blk_drewN ?_ _ | refine blk_drew ?_ | refine blk_alloc ?_ _)); refine blk_far ?_ NB278_280.out _; (with_reducible repeat (first | refine blk_drewN ?_ _ | refine blk_drew ?_ | refine blk_alloc ?_ _)); refine blk_far ?_ NB278_280.out _; (with_reducible repeat (first | refine blk_drewN ?_ _ | refine blk_drew ?_ | refine blk_alloc ?_ _)); refine blk_far ?_ NB278_280.out _; (with_reducible repeat (first | refine blk_drewN ?_ _ | refine blk_drew ?_ | refine blk_alloc ?_ _)); refine blk_far ?_ NB278_280.out _; (with_reducible repeat (first | refine blk_drewN ?_ _ | refine blk_drew ?_ | refine blk_alloc ?_ _)); exact BK278.out) hb); replace BK279 := Aside0.mk (blk_below (g := gb279) (o := .cells #[.int .i64 0, .slice none 0 0, .slice none 0 0, .slice none 0 0] 56 (0, 0)) (by (with_reducible repeat (first | refine blk_drewN ?_ _ | refine blk_drew ?_ | refine blk_alloc ?_ _)); refine blk_far ?_ NB279_280.out _; (with_reducible repeat (first | refine blk_drewN ?_ _ | refine blk_drew ?_ | refine blk_alloc ?_ _)); refine blk_far ?_ NB279_280.out _; (with_reducible repeat (first | refine blk_drewN ?_ _ | refine blk_drew ?_ | refine blk_alloc ?_ _)); refine blk_far ?_ NB279_280.out _; (with_reducible repeat (first | refine blk_drewN ?_ _ | refine blk_drew ?_ | refine blk_alloc ?_ _)); refine blk_far ?_ NB279_280.out _; (with_reducible repeat (first | refine blk_drewN ?_ _ | refine blk_drew ?_ | refine blk_alloc ?_ _)); exact BK279.out) hb); replace BK280 := Aside0.mk (blk_below (g := gb280) (o := .cells #[.int .i64 a0_0, .slice A0_1 l0_1.length c0_1, .slice A0_2 l0_2.length c0_2, .slice A2 l2.length c2] 56 (0, 0)) (by (with_reducible repeat (first | refine blk_drewN ?_ _ | refine blk_drew ?_ | refine blk_alloc ?_ _)); refine blk_put (cs := #[.int .i64 a0_0, .slice A0_1 l0_1.length c0_1, .slice A0_2 l0_2.length c0_2, .slice none 0 0]) ?_ 3 _ rfl; (with_reducible repeat (first | refine blk_drewN ?_ _ | refine blk_drew ?_ | refine blk_alloc ?_ _)); refine blk_put (cs := #[.int .i64 a0_0, .slice A0_1 l0_1.length c0_1, .slice none 0 0, .slice none 0 0]) ?_ 2 _ rfl; (with_reducible repeat (first | refine blk_drewN ?_ _ | refine blk_drew ?_ | refine blk_alloc ?_ _)); refine blk_put (cs := #[.int .i64 a0_0, .slice none 0 0, .slice none 0 0, .slice none 0 0]) ?_ 1 _ rfl; (with_reducible repeat (first | refine blk_drewN ?_ _ | refine blk_drew ?_ | refine blk_alloc ?_ _)); refine blk_put (cs := #[.int .i64 0, .slice none 0 0, .slice none 0 0, .slice none 0 0]) ?_ 0 _ rfl; (with_reducible repeat (first | refine blk_drewN ?_ _ | refine blk_drew ?_ | refine blk_alloc ?_ _)); exact BK280.out) hb); replace HB := Aside0.mk (below_step bel hb); clear hb; obtain ⟨hcz23_0, hcz23_1, hcz23_2, hcz23_3⟩ := bc4 BK280.out; obtain ⟨hfz23_0, hfz23_1, hfz23_2, hfz23_3⟩ := bf4 BK280.out) | ((with_reducible refine gate_callee (f := 28) rfl ?_); refine goesL_ (some 19) rfl rfl Tryd.func28 (by kernel_rfl) rfl #[.agg #[.int .i64 a0_0, .slice A0_1 l0_1.length c0_1, .slice A0_2 l0_2.length c0_2, .slice A2 l2.length c2]] rfl mapz ?_; (with_reducible refine (feed_rule_kept.calls k a0_0 _ _ l0_1 _ _ l0_2 _ _ l2 t282 _ (cbz HR0_1) HC0_1.out (cbz HR0_2) HC0_2.out (cbz HR2) HC2.out A6.out).mono ?_); rintro e w24 ⟨rfl, hb⟩; refine ⟨_, rfl, ?_⟩; replace BK278 := Aside0.mk (blk_below (g := gb278) blkz hb); replace BK279 := Aside0.mk (blk_below (g := gb279) blkz hb); replace BK280 := Aside0.mk (blk_below (g := gb280) blkz hb); replace HB := Aside0.mk (below_step bel hb); clear hb; obtain ⟨hcz25_0, hcz25_1, hcz25_2, hcz25_3⟩ := bc4 BK280.out; obtain ⟨hfz25_0, hfz25_1, hfz25_2, hfz25_3⟩ := bf4 BK280.out) | ((with_reducible refine gate_callee (f := 26) rfl ?_); refine goesL_ (some 27) rfl rfl Tryd.func26 (by kernel_rfl) rfl #[.agg #[.int .i64 a0_0, .slice A0_1 l0_1.length c0_1, .slice A0_2 l0_2.length c0_2]] rfl mapz ?_; (with_reducible refine (feed_grid_all.calls a0_0 _ _ l0_1 _ _ l0_2 t283 _ (cbz HR0_1) HC0_1.out (cbz HR0_2) HC0_2.out A8.out).mono ?_); rintro e w26 ⟨rfl, hb⟩; refine ⟨_, rfl, ?_⟩; replace BK278 := Aside0.mk (blk_below (g := gb278) blkz hb); replace BK279 := Aside0.mk (blk_below (g := gb279) blkz hb); replace BK280 := Aside0.mk (blk_below (g := gb280) blkz hb); replace HB := Aside0.mk (below_step bel hb); clear hb) | ((with_reducible refine gate_callee (f := 25) rfl ?_); refine goesL_ (some 29) rfl rfl Tryd.func25 (by kernel_rfl) rfl #[.int .i64 0, .int .i64 a1, .int .i64 (wrap64 (t283 - 1))] rfl mapz ?_; (with_reducible refine (feed_within.calls 0 a1 (wrap64 (t283 - 1)) true _ A9.out).mono ?_); rintro e w' ⟨rfl, ⟨nd, rfl⟩⟩; refine ⟨_, rfl, ?_⟩; (try (rw [drewN_self w26]; generalize hq_ : World.drewN w26 _ = w26; have n0_ : Aside0 (w26.heap[gb278]? = some (.cells #[.int .i64 a0_0, .slice A0_1 l0_1.length c0_1, .slice A0_2 l0_2.length c0_2] 25 (0, 0))) := ⟨by rw [← hq_]; exact blkz⟩; have n1_ : Aside0 (w26.heap[gb279]? = some (.cells #[.int .i64 0, .slice none 0 0, .slice none 0 0, .slice none 0 0] 56 (0, 0))) := ⟨by rw [← hq_]; exact blkz⟩; have n2_ : Aside0 (w26.heap[gb280]? = some (.cells #[.int .i64 a0_0, .slice A0_1 l0_1.length c0_1, .slice A0_2 l0_2.length c0_2, .slice A2 l2.length c2] 56 (0, 0))) := ⟨by rw [← hq_]; exact blkz⟩; have n3_ : Aside0 (Below w.heap.size w w26) := ⟨by rw [← hq_]; exact bel⟩; clear BK278 BK279 BK280 HB hq_; have BK278 := n0_; have BK279 := n1_; have BK280 := n2_; have HB := n3_; clear n0_ n1_ n2_ n3_)); obtain ⟨hcz27_0, hcz27_1, hcz27_2, hcz27_3⟩ := bc4 BK280.out; obtain ⟨hfz27_0, hfz27_1, hfz27_2, hfz27_3⟩ := bf4 BK280.out) | (go_at_call 29; (with_reducible refine (feed_rule_keeps.calls k a0_0 _ _ l0_1 _ _ l0_2 _ _ l2 a1 true _ (cbz HR0_1) HC0_1.out (cbz HR0_2) HC0_2.out (cbz HR2) HC2.out (tbz HT) A11.out).mono ?_); rintro e w28 ⟨rfl, hb⟩; replace BK278 := Aside0.mk (blk_below (g := gb278) blkz hb); replace BK279 := Aside0.mk (blk_below (g := gb279) blkz hb); replace BK280 := Aside0.mk (blk_below (g := gb280) blkz hb); replace HB := Aside0.mk (below_step bel hb); clear hb; obtain ⟨hcz29_0, hcz29_1, hcz29_2, hcz29_3⟩ := bc4 BK280.out; obtain ⟨hfz29_0, hfz29_1, hfz29_2, hfz29_3⟩ := bf4 BK280.out; obtain ⟨hcz30_0, hcz30_1, hcz30_2, hcz30_3⟩ := bc4 BK279.out; obtain ⟨hfz30_0, hfz30_1, hfz30_2, hfz30_3⟩ := bf4 BK279.out))
     refine bodyPost_ret (results_ct rfl _ _ gb279 56 #[.int .i64 a0_0, .slice A0_1 l0_1.length c0_1, .slice A0_2 l0_2.length c0_2, .slice A2 l2.length c2] (0, 0) _ rfl (by (with_reducible repeat (first | refine blk_drewN ?_ _ | refine blk_drew ?_ | refine blk_alloc ?_ _)); refine blk_put (cs := #[.int .i64 a0_0, .slice A0_1 l0_1.length c0_1, .slice A0_2 l0_2.length c0_2, .slice none 0 0]) ?_ 3 _ rfl; (with_reducible repeat (first | refine blk_drewN ?_ _ | refine blk_drew ?_ | refine blk_alloc ?_ _)); refine blk_put (cs := #[.int .i64 a0_0, .slice A0_1 l0_1.length c0_1, .slice none 0 0, .slice none 0 0]) ?_ 2 _ rfl; (with_reducible repeat (first | refine blk_drewN ?_ _ | refine blk_drew ?_ | refine blk_alloc ?_ _)); refine blk_put (cs := #[.int .i64 a0_0, .slice none 0 0, .slice none 0 0, .slice none 0 0]) ?_ 1 _ rfl; (with_reducible repeat (first | refine blk_drewN ?_ _ | refine blk_drew ?_ | refine blk_alloc ?_ _)); refine blk_put (cs := #[.int .i64 0, .slice none 0 0, .slice none 0 0, .slice none 0 0]) ?_ 0 _ rfl; (with_reducible repeat (first | refine blk_drewN ?_ _ | refine blk_drew ?_ | refine blk_alloc ?_ _)); exact BK279.out) Tryd.underlying56 rfl (by kernel_rfl)) rfl ?_
     exact ⟨ezz, bel⟩
    ·
     replace c12 := Bool.eq_false_iff.mpr c12
     subst c12
     rw [if_neg (show ¬ (false = true) by decide)] at H
     simp only [Option.some.injEq, Prod.mk.injEq] at H
     obtain ⟨rfl, rfl⟩ := H
     go_enter Tryd.func22, Tryd.ntmps22
     go_wp2_with (first | ((with_reducible refine gate_dst (N := 3) rfl ?_); refine box_event ?hg (N := 3) ?hd (cs := #[.int .i64 a0_0, .slice A0_1 l0_1.length c0_1, .slice A0_2 l0_2.length c0_2]) (t := 25) ?hr ?_; (case hd => rfl); (case hg => rfl); (case hr => first | (go_simp; done) | (go_simp; rfl)); intro gb278 hg w31 hbox hb; have BK278 := Aside0.mk (hbox); have GW278 := bsz (w := w) hg; have GE278 := GW278; replace HB := Aside0.mk (below_step bel hb); clear hb hbox hg) | ((with_reducible refine gate_dst (N := 6) rfl ?_); refine box_event ?hg (N := 6) ?hd (cs := #[.int .i64 0, .slice none 0 0, .slice none 0 0, .slice none 0 0]) (t := 56) ?hr ?_; (case hd => rfl); (case hg => rfl); (case hr => first | (go_simp; done) | (go_simp; rfl)); intro gb279 hg w32 hbox hb; have BK279 := Aside0.mk (hbox); have GW279 := bsz (w := w) hg; have GE279 := GW279; have NB278_279 := neL (g := gb278) hg; have NB279_278 := neR (g := gb278) hg; replace BK278 := Aside0.mk (blk_below (g := gb278) blkz hb); replace HB := Aside0.mk (below_step bel hb); clear hb hbox hg; have hnb33 := NB278_279.out; have hnc33 := NB279_278.out; obtain ⟨hcz34_0, hcz34_1, hcz34_2⟩ := bc3 BK278.out) | ((with_reducible refine gate_dst (N := 8) rfl ?_); refine box_event ?hg (N := 8) ?hd (cs := #[.int .i64 0, .slice none 0 0, .slice none 0 0, .slice none 0 0]) (t := 56) ?hr ?_; (case hd => rfl); (case hg => rfl); (case hr => first | (go_simp; done) | (go_simp; rfl)); intro gb280 hg w35 hbox hb; have BK280 := Aside0.mk (hbox); have GW280 := bsz (w := w) hg; have GE280 := GW280; have NB278_280 := neL (g := gb278) hg; have NB280_278 := neR (g := gb278) hg; have NB279_280 := neL (g := gb279) hg; have NB280_279 := neR (g := gb279) hg; replace BK278 := Aside0.mk (blk_below (g := gb278) blkz hb); replace BK279 := Aside0.mk (blk_below (g := gb279) blkz hb); replace HB := Aside0.mk (below_step bel hb); clear hb hbox hg; have hnb36 := NB280_278.out; have hnc36 := NB278_280.out; have hnb37 := NB280_279.out; have hnc37 := NB279_280.out; obtain ⟨hcz38_0, hcz38_1, hcz38_2, hcz38_3⟩ := bc4 BK280.out; obtain ⟨hfz38_0, hfz38_1, hfz38_2, hfz38_3⟩ := bf4 BK280.out; obtain ⟨hcz39_0, hcz39_1, hcz39_2⟩ := bc3 BK278.out) | ((with_reducible refine gate_callee (f := 27) rfl ?_); refine goesL_ (some 15) rfl rfl Tryd.func27 (by kernel_rfl) rfl #[.agg #[.int .i64 a0_0, .slice A0_1 l0_1.length c0_1, .slice A0_2 l0_2.length c0_2]] rfl mapz ?_; (with_reducible refine (feed_Valid.calls a0_0 _ _ l0_1 _ _ l0_2 true _ (cbz HR0_1) HC0_1.out (cbz HR0_2) HC0_2.out A4.out).mono ?_); rintro e w40 ⟨rfl, hb⟩; refine ⟨_, rfl, ?_⟩; replace BK278 := Aside0.mk (blk_below (g := gb278) (o := .cells #[.int .i64 a0_0, .slice A0_1 l0_1.length c0_1, .slice A0_2 l0_2.length c0_2] 25 (0, 0)) (by (with_reducible repeat (first | refine blk_drewN ?_ _ | refine blk_drew ?_ | refine blk_alloc ?_ _)); refine blk_far ?_ NB278_280.out _; (with_reducible repeat (first | refine blk_drewN ?_ _ | refine blk_drew ?_ | refine blk_alloc ?_ _)); refine blk_far ?_ NB278_280.out _; (with_reducible repeat (first | refine blk_drewN ?_ _ | refine blk_drew ?_ | refine blk_alloc ?_ _)); refine blk_far ?_ NB278_280.out _; (with_reducible repeat (first | refine blk_drewN ?_ _ | refine blk_drew ?_ | refine blk_alloc ?_ _)); refine blk_far ?_ NB278_280.out _; (with_reducible repeat (first | refine blk_drewN ?_ _ | refine blk_drew ?_ | refine blk_alloc ?_ _)); exact BK278.out) hb); replace BK279 := Aside0.mk (blk_below (g := gb279) (o := .cells #[.int .i64 0, .slice none 0 0, .slice none 0 0, .slice none 0 0] 56 (0, 0)) (by (with_reducible repeat (first | refine blk_drewN ?_ _ | refine blk_drew ?_ | refine blk_alloc ?_ _)); refine blk_far ?_ NB279_280.out _; (with_reducible repeat (first | refine blk_drewN ?_ _ | refine blk_drew ?_ | refine blk_alloc ?_ _)); refine blk_far ?_ NB279_280.out _; (with_reducible repeat (first | refine blk_drewN ?_ _ | refine blk_drew ?_ | refine blk_alloc ?_ _)); refine blk_far ?_ NB279_280.out _; (with_reducible repeat (first | refine blk_drewN ?_ _ | refine blk_drew ?_ | refine blk_alloc ?_ _)); refine blk_far ?_ NB279_280.out _; (with_reducible repeat (first | refine blk_drewN ?_ _ | refine blk_drew ?_ | refine blk_alloc ?_ _)); exact BK279.out) hb); replace BK280 := Aside0.mk (blk_below (g := gb280) (o := .cells #[.int .i64 a0_0, .slice A0_1 l0_1.length c0_1, .slice A0_2 l0_2.length c0_2, .slice A2 l2.length c2] 56 (0, 0)) (by (with_reducible repeat (first | refine blk_drewN ?_ _ | refine blk_drew ?_ | refine blk_alloc ?_ _)); refine blk_put (cs := #[.int .i64 a0_0, .slice A0_1 l0_1.length c0_1, .slice A0_2 l0_2.length c0_2, .slice none 0 0]) ?_ 3 _ rfl; (with_reducible repeat (first | refine blk_drewN ?_ _ | refine blk_drew ?_ | refine blk_alloc ?_ _)); refine blk_put (cs := #[.int .i64 a0_0, .slice A0_1 l0_1.length c0_1, .slice none 0 0, .slice none 0 0]) ?_ 2 _ rfl; (with_reducible repeat (first | refine blk_drewN ?_ _ | refine blk_drew ?_ | refine blk_alloc ?_ _)); refine blk_put (cs := #[.int .i64 a0_0, .slice none 0 0, .slice none 0 0, .slice none 0 0]) ?_ 1 _ rfl; (with_reducible repeat (first | refine blk_drewN ?_ _ | refine blk_drew ?_ | refine blk_alloc ?_ _)); refine blk_put (cs := #[.int .i64 0, .slice none 0 0, .slice none 0 0, .slice none 0 0]) ?_ 0 _ rfl; (with_reducible repeat (first | refine blk_drewN ?_ _ | refine blk_drew ?_ | refine blk_alloc ?_ _)); exact BK280.out) hb); replace HB := Aside0.mk (below_step bel hb); clear hb; obtain ⟨hcz41_0, hcz41_1, hcz41_2, hcz41_3⟩ := bc4 BK280.out; obtain ⟨hfz41_0, hfz41_1, hfz41_2, hfz41_3⟩ := bf4 BK280.out) | ((with_reducible refine gate_callee (f := 28) rfl ?_); refine goesL_ (some 19) rfl rfl Tryd.func28 (by kernel_rfl) rfl #[.agg #[.int .i64 a0_0, .slice A0_1 l0_1.length c0_1, .slice A0_2 l0_2.length c0_2, .slice A2 l2.length c2]] rfl mapz ?_; (with_reducible refine (feed_rule_kept.calls k a0_0 _ _ l0_1 _ _ l0_2 _ _ l2 t282 _ (cbz HR0_1) HC0_1.out (cbz HR0_2) HC0_2.out (cbz HR2) HC2.out A6.out).mono ?_); rintro e w42 ⟨rfl, hb⟩; refine ⟨_, rfl, ?_⟩; replace BK278 := Aside0.mk (blk_below (g := gb278) blkz hb); replace BK279 := Aside0.mk (blk_below (g := gb279) blkz hb); replace BK280 := Aside0.mk (blk_below (g := gb280) blkz hb); replace HB := Aside0.mk (below_step bel hb); clear hb; obtain ⟨hcz43_0, hcz43_1, hcz43_2, hcz43_3⟩ := bc4 BK280.out; obtain ⟨hfz43_0, hfz43_1, hfz43_2, hfz43_3⟩ := bf4 BK280.out) | ((with_reducible refine gate_callee (f := 26) rfl ?_); refine goesL_ (some 27) rfl rfl Tryd.func26 (by kernel_rfl) rfl #[.agg #[.int .i64 a0_0, .slice A0_1 l0_1.length c0_1, .slice A0_2 l0_2.length c0_2]] rfl mapz ?_; (with_reducible refine (feed_grid_all.calls a0_0 _ _ l0_1 _ _ l0_2 t283 _ (cbz HR0_1) HC0_1.out (cbz HR0_2) HC0_2.out A8.out).mono ?_); rintro e w44 ⟨rfl, hb⟩; refine ⟨_, rfl, ?_⟩; replace BK278 := Aside0.mk (blk_below (g := gb278) blkz hb); replace BK279 := Aside0.mk (blk_below (g := gb279) blkz hb); replace BK280 := Aside0.mk (blk_below (g := gb280) blkz hb); replace HB := Aside0.mk (below_step bel hb); clear hb) | ((with_reducible refine gate_callee (f := 25) rfl ?_); refine goesL_ (some 29) rfl rfl Tryd.func25 (by kernel_rfl) rfl #[.int .i64 0, .int .i64 a1, .int .i64 (wrap64 (t283 - 1))] rfl mapz ?_; (with_reducible refine (feed_within.calls 0 a1 (wrap64 (t283 - 1)) true _ A9.out).mono ?_); rintro e w' ⟨rfl, ⟨nd, rfl⟩⟩; refine ⟨_, rfl, ?_⟩; (try (rw [drewN_self w44]; generalize hq_ : World.drewN w44 _ = w44; have n0_ : Aside0 (w44.heap[gb278]? = some (.cells #[.int .i64 a0_0, .slice A0_1 l0_1.length c0_1, .slice A0_2 l0_2.length c0_2] 25 (0, 0))) := ⟨by rw [← hq_]; exact blkz⟩; have n1_ : Aside0 (w44.heap[gb279]? = some (.cells #[.int .i64 0, .slice none 0 0, .slice none 0 0, .slice none 0 0] 56 (0, 0))) := ⟨by rw [← hq_]; exact blkz⟩; have n2_ : Aside0 (w44.heap[gb280]? = some (.cells #[.int .i64 a0_0, .slice A0_1 l0_1.length c0_1, .slice A0_2 l0_2.length c0_2, .slice A2 l2.length c2] 56 (0, 0))) := ⟨by rw [← hq_]; exact blkz⟩; have n3_ : Aside0 (Below w.heap.size w w44) := ⟨by rw [← hq_]; exact bel⟩; clear BK278 BK279 BK280 HB hq_; have BK278 := n0_; have BK279 := n1_; have BK280 := n2_; have HB := n3_; clear n0_ n1_ n2_ n3_)); obtain ⟨hcz45_0, hcz45_1, hcz45_2, hcz45_3⟩ := bc4 BK280.out; obtain ⟨hfz45_0, hfz45_1, hfz45_2, hfz45_3⟩ := bf4 BK280.out) | (go_at_call 29; (with_reducible refine (feed_rule_keeps.calls k a0_0 _ _ l0_1 _ _ l0_2 _ _ l2 a1 false _ (cbz HR0_1) HC0_1.out (cbz HR0_2) HC0_2.out (cbz HR2) HC2.out (tbz HT) A11.out).mono ?_); rintro e w46 ⟨rfl, hb⟩; replace BK278 := Aside0.mk (blk_below (g := gb278) blkz hb); replace BK279 := Aside0.mk (blk_below (g := gb279) blkz hb); replace BK280 := Aside0.mk (blk_below (g := gb280) blkz hb); replace HB := Aside0.mk (below_step bel hb); clear hb; obtain ⟨hcz47_0, hcz47_1, hcz47_2, hcz47_3⟩ := bc4 BK280.out; obtain ⟨hfz47_0, hfz47_1, hfz47_2, hfz47_3⟩ := bf4 BK280.out; obtain ⟨hcz48_0, hcz48_1, hcz48_2, hcz48_3⟩ := bc4 BK279.out; obtain ⟨hfz48_0, hfz48_1, hfz48_2, hfz48_3⟩ := bf4 BK279.out))
     refine bodyPost_ret (results_ct rfl _ _ gb279 56 #[.int .i64 a0_0, .slice A0_1 l0_1.length c0_1, .slice A0_2 l0_2.length c0_2, .slice A2 l2.length c2] (0, 0) _ rfl (by (with_reducible repeat (first | refine blk_drewN ?_ _ | refine blk_drew ?_ | refine blk_alloc ?_ _)); refine blk_put (cs := #[.int .i64 a0_0, .slice A0_1 l0_1.length c0_1, .slice A0_2 l0_2.length c0_2, .slice none 0 0]) ?_ 3 _ rfl; (with_reducible repeat (first | refine blk_drewN ?_ _ | refine blk_drew ?_ | refine blk_alloc ?_ _)); refine blk_put (cs := #[.int .i64 a0_0, .slice A0_1 l0_1.length c0_1, .slice none 0 0, .slice none 0 0]) ?_ 2 _ rfl; (with_reducible repeat (first | refine blk_drewN ?_ _ | refine blk_drew ?_ | refine blk_alloc ?_ _)); refine blk_put (cs := #[.int .i64 a0_0, .slice none 0 0, .slice none 0 0, .slice none 0 0]) ?_ 1 _ rfl; (with_reducible repeat (first | refine blk_drewN ?_ _ | refine blk_drew ?_ | refine blk_alloc ?_ _)); refine blk_put (cs := #[.int .i64 0, .slice none 0 0, .slice none 0 0, .slice none 0 0]) ?_ 0 _ rfl; (with_reducible repeat (first | refine blk_drewN ?_ _ | refine blk_drew ?_ | refine blk_alloc ?_ _)); exact BK279.out) Tryd.underlying56 rfl (by kernel_rfl)) rfl ?_
     exact ⟨ezz, bel⟩
   ·
    replace c10 := Bool.eq_false_iff.mpr c10
    subst c10
    rw [if_neg (show ¬ (false = true) by decide)] at H
    simp only [Option.some.injEq, Prod.mk.injEq] at H
    obtain ⟨rfl, rfl⟩ := H
    go_enter Tryd.func22, Tryd.ntmps22
    go_wp2_with (first | ((with_reducible refine gate_dst (N := 3) rfl ?_); refine box_event ?hg (N := 3) ?hd (cs := #[.int .i64 a0_0, .slice A0_1 l0_1.length c0_1, .slice A0_2 l0_2.length c0_2]) (t := 25) ?hr ?_; (case hd => rfl); (case hg => rfl); (case hr => first | (go_simp; done) | (go_simp; rfl)); intro gb278 hg w49 hbox hb; have BK278 := Aside0.mk (hbox); have GW278 := bsz (w := w) hg; have GE278 := GW278; replace HB := Aside0.mk (below_step bel hb); clear hb hbox hg) | ((with_reducible refine gate_dst (N := 6) rfl ?_); refine box_event ?hg (N := 6) ?hd (cs := #[.int .i64 0, .slice none 0 0, .slice none 0 0, .slice none 0 0]) (t := 56) ?hr ?_; (case hd => rfl); (case hg => rfl); (case hr => first | (go_simp; done) | (go_simp; rfl)); intro gb279 hg w50 hbox hb; have BK279 := Aside0.mk (hbox); have GW279 := bsz (w := w) hg; have GE279 := GW279; have NB278_279 := neL (g := gb278) hg; have NB279_278 := neR (g := gb278) hg; replace BK278 := Aside0.mk (blk_below (g := gb278) blkz hb); replace HB := Aside0.mk (below_step bel hb); clear hb hbox hg; have hnb51 := NB278_279.out; have hnc51 := NB279_278.out; obtain ⟨hcz52_0, hcz52_1, hcz52_2⟩ := bc3 BK278.out) | ((with_reducible refine gate_dst (N := 8) rfl ?_); refine box_event ?hg (N := 8) ?hd (cs := #[.int .i64 0, .slice none 0 0, .slice none 0 0, .slice none 0 0]) (t := 56) ?hr ?_; (case hd => rfl); (case hg => rfl); (case hr => first | (go_simp; done) | (go_simp; rfl)); intro gb280 hg w53 hbox hb; have BK280 := Aside0.mk (hbox); have GW280 := bsz (w := w) hg; have GE280 := GW280; have NB278_280 := neL (g := gb278) hg; have NB280_278 := neR (g := gb278) hg; have NB279_280 := neL (g := gb279) hg; have NB280_279 := neR (g := gb279) hg; replace BK278 := Aside0.mk (blk_below (g := gb278) blkz hb); replace BK279 := Aside0.mk (blk_below (g := gb279) blkz hb); replace HB := Aside0.mk (below_step bel hb); clear hb hbox hg; have hnb54 := NB280_278.out; have hnc54 := NB278_280.out; have hnb55 := NB280_279.out; have hnc55 := NB279_280.out; obtain ⟨hcz56_0, hcz56_1, hcz56_2, hcz56_3⟩ := bc4 BK280.out; obtain ⟨hfz56_0, hfz56_1, hfz56_2, hfz56_3⟩ := bf4 BK280.out; obtain ⟨hcz57_0, hcz57_1, hcz57_2⟩ := bc3 BK278.out) | ((with_reducible refine gate_callee (f := 27) rfl ?_); refine goesL_ (some 15) rfl rfl Tryd.func27 (by kernel_rfl) rfl #[.agg #[.int .i64 a0_0, .slice A0_1 l0_1.length c0_1, .slice A0_2 l0_2.length c0_2]] rfl mapz ?_; (with_reducible refine (feed_Valid.calls a0_0 _ _ l0_1 _ _ l0_2 true _ (cbz HR0_1) HC0_1.out (cbz HR0_2) HC0_2.out A4.out).mono ?_); rintro e w58 ⟨rfl, hb⟩; refine ⟨_, rfl, ?_⟩; replace BK278 := Aside0.mk (blk_below (g := gb278) (o := .cells #[.int .i64 a0_0, .slice A0_1 l0_1.length c0_1, .slice A0_2 l0_2.length c0_2] 25 (0, 0)) (by (with_reducible repeat (first | refine blk_drewN ?_ _ | refine blk_drew ?_ | refine blk_alloc ?_ _)); refine blk_far ?_ NB278_280.out _; (with_reducible repeat (first | refine blk_drewN ?_ _ | refine blk_drew ?_ | refine blk_alloc ?_ _)); refine blk_far ?_ NB278_280.out _; (with_reducible repeat (first | refine blk_drewN ?_ _ | refine blk_drew ?_ | refine blk_alloc ?_ _)); refine blk_far ?_ NB278_280.out _; (with_reducible repeat (first | refine blk_drewN ?_ _ | refine blk_drew ?_ | refine blk_alloc ?_ _)); refine blk_far ?_ NB278_280.out _; (with_reducible repeat (first | refine blk_drewN ?_ _ | refine blk_drew ?_ | refine blk_alloc ?_ _)); exact BK278.out) hb); replace BK279 := Aside0.mk (blk_below (g := gb279) (o := .cells #[.int .i64 0, .slice none 0 0, .slice none 0 0, .slice none 0 0] 56 (0, 0)) (by (with_reducible repeat (first | refine blk_drewN ?_ _ | refine blk_drew ?_ | refine blk_alloc ?_ _)); refine blk_far ?_ NB279_280.out _; (with_reducible repeat (first | refine blk_drewN ?_ _ | refine blk_drew ?_ | refine blk_alloc ?_ _)); refine blk_far ?_ NB279_280.out _; (with_reducible repeat (first | refine blk_drewN ?_ _ | refine blk_drew ?_ | refine blk_alloc ?_ _)); refine blk_far ?_ NB279_280.out _; (with_reducible repeat (first | refine blk_drewN ?_ _ | refine blk_drew ?_ | refine blk_alloc ?_ _)); refine blk_far ?_ NB279_280.out _; (with_reducible repeat (first | refine blk_drewN ?_ _ | refine blk_drew ?_ | refine blk_alloc ?_ _)); exact BK279.out) hb); replace BK280 := Aside0.mk (blk_below (g := gb280) (o := .cells #[.int .i64 a0_0, .slice A0_1 l0_1.length c0_1, .slice A0_2 l0_2.length c0_2, .slice A2 l2.length c2] 56 (0, 0)) (by (with_reducible repeat (first | refine blk_drewN ?_ _ | refine blk_drew ?_ | refine blk_alloc ?_ _)); refine blk_put (cs := #[.int .i64 a0_0, .slice A0_1 l0_1.length c0_1, .slice A0_2 l0_2.length c0_2, .slice none 0 0]) ?_ 3 _ rfl; (with_reducible repeat (first | refine blk_drewN ?_ _ | refine blk_drew ?_ | refine blk_alloc ?_ _)); refine blk_put (cs := #[.int .i64 a0_0, .slice A0_1 l0_1.length c0_1, .slice none 0 0, .slice none 0 0]) ?_ 2 _ rfl; (with_reducible repeat (first | refine blk_drewN ?_ _ | refine blk_drew ?_ | refine blk_alloc ?_ _)); refine blk_put (cs := #[.int .i64 a0_0, .slice none 0 0, .slice none 0 0, .slice none 0 0]) ?_ 1 _ rfl; (with_reducible repeat (first | refine blk_drewN ?_ _ | refine blk_drew ?_ | refine blk_alloc ?_ _)); refine blk_put (cs := #[.int .i64 0, .slice none 0 0, .slice none 0 0, .slice none 0 0]) ?_ 0 _ rfl; (with_reducible repeat (first | refine blk_drewN ?_ _ | refine blk_drew ?_ | refine blk_alloc ?_ _)); exact BK280.out) hb); replace HB := Aside0.mk (below_step bel hb); clear hb; obtain ⟨hcz59_0, hcz59_1, hcz59_2, hcz59_3⟩ := bc4 BK280.out; obtain ⟨hfz59_0, hfz59_1, hfz59_2, hfz59_3⟩ := bf4 BK280.out) | ((with_reducible refine gate_callee (f := 28) rfl ?_); refine goesL_ (some 19) rfl rfl Tryd.func28 (by kernel_rfl) rfl #[.agg #[.int .i64 a0_0, .slice A0_1 l0_1.length c0_1, .slice A0_2 l0_2.length c0_2, .slice A2 l2.length c2]] rfl mapz ?_; (with_reducible refine (feed_rule_kept.calls k a0_0 _ _ l0_1 _ _ l0_2 _ _ l2 t282 _ (cbz HR0_1) HC0_1.out (cbz HR0_2) HC0_2.out (cbz HR2) HC2.out A6.out).mono ?_); rintro e w60 ⟨rfl, hb⟩; refine ⟨_, rfl, ?_⟩; replace BK278 := Aside0.mk (blk_below (g := gb278) blkz hb); replace BK279 := Aside0.mk (blk_below (g := gb279) blkz hb); replace BK280 := Aside0.mk (blk_below (g := gb280) blkz hb); replace HB := Aside0.mk (below_step bel hb); clear hb; obtain ⟨hcz61_0, hcz61_1, hcz61_2, hcz61_3⟩ := bc4 BK280.out; obtain ⟨hfz61_0, hfz61_1, hfz61_2, hfz61_3⟩ := bf4 BK280.out) | ((with_reducible refine gate_callee (f := 26) rfl ?_); refine goesL_ (some 27) rfl rfl Tryd.func26 (by kernel_rfl) rfl #[.agg #[.int .i64 a0_0, .slice A0_1 l0_1.length c0_1, .slice A0_2 l0_2.length c0_2]] rfl mapz ?_; (with_reducible refine (feed_grid_all.calls a0_0 _ _ l0_1 _ _ l0_2 t283 _ (cbz HR0_1) HC0_1.out (cbz HR0_2) HC0_2.out A8.out).mono ?_); rintro e w62 ⟨rfl, hb⟩; refine ⟨_, rfl, ?_⟩; replace BK278 := Aside0.mk (blk_below (g := gb278) blkz hb); replace BK279 := Aside0.mk (blk_below (g := gb279) blkz hb); replace BK280 := Aside0.mk (blk_below (g := gb280) blkz hb); replace HB := Aside0.mk (below_step bel hb); clear hb) | ((with_reducible refine gate_callee (f := 25) rfl ?_); refine goesL_ (some 29) rfl rfl Tryd.func25 (by kernel_rfl) rfl #[.int .i64 0, .int .i64 a1, .int .i64 (wrap64 (t283 - 1))] rfl mapz ?_; (with_reducible refine (feed_within.calls 0 a1 (wrap64 (t283 - 1)) false _ A9.out).mono ?_); rintro e w' ⟨rfl, ⟨nd, rfl⟩⟩; refine ⟨_, rfl, ?_⟩; (try (rw [drewN_self w62]; generalize hq_ : World.drewN w62 _ = w62; have n0_ : Aside0 (w62.heap[gb278]? = some (.cells #[.int .i64 a0_0, .slice A0_1 l0_1.length c0_1, .slice A0_2 l0_2.length c0_2] 25 (0, 0))) := ⟨by rw [← hq_]; exact blkz⟩; have n1_ : Aside0 (w62.heap[gb279]? = some (.cells #[.int .i64 0, .slice none 0 0, .slice none 0 0, .slice none 0 0] 56 (0, 0))) := ⟨by rw [← hq_]; exact blkz⟩; have n2_ : Aside0 (w62.heap[gb280]? = some (.cells #[.int .i64 a0_0, .slice A0_1 l0_1.length c0_1, .slice A0_2 l0_2.length c0_2, .slice A2 l2.length c2] 56 (0, 0))) := ⟨by rw [← hq_]; exact blkz⟩; have n3_ : Aside0 (Below w.heap.size w w62) := ⟨by rw [← hq_]; exact bel⟩; clear BK278 BK279 BK280 HB hq_; have BK278 := n0_; have BK279 := n1_; have BK280 := n2_; have HB := n3_; clear n0_ n1_ n2_ n3_)); obtain ⟨hcz63_0, hcz63_1, hcz63_2, hcz63_3⟩ := bc4 BK280.out; obtain ⟨hfz63_0, hfz63_1, hfz63_2, hfz63_3⟩ := bf4 BK280.out; obtain ⟨hcz64_0, hcz64_1, hcz64_2, hcz64_3⟩ := bc4 BK279.out; obtain ⟨hfz64_0, hfz64_1, hfz64_2, hfz64_3⟩ := bf4 BK279.out))
    refine bodyPost_ret (results_ct rfl _ _ gb279 56 #[.int .i64 a0_0, .slice A0_1 l0_1.length c0_1, .slice A0_2 l0_2.length c0_2, .slice A2 l2.length c2] (0, 0) _ rfl (by (with_reducible repeat (first | refine blk_drewN ?_ _ | refine blk_drew ?_ | refine blk_alloc ?_ _)); refine blk_put (cs := #[.int .i64 a0_0, .slice A0_1 l0_1.length c0_1, .slice A0_2 l0_2.length c0_2, .slice none 0 0]) ?_ 3 _ rfl; (with_reducible repeat (first | refine blk_drewN ?_ _ | refine blk_drew ?_ | refine blk_alloc ?_ _)); refine blk_put (cs := #[.int .i64 a0_0, .slice A0_1 l0_1.length c0_1, .slice none 0 0, .slice none 0 0]) ?_ 2 _ rfl; (with_reducible repeat (first | refine blk_drewN ?_ _ | refine blk_drew ?_ | refine blk_alloc ?_ _)); refine blk_put (cs := #[.int .i64 a0_0, .slice none 0 0, .slice none 0 0, .slice none 0 0]) ?_ 1 _ rfl; (with_reducible repeat (first | refine blk_drewN ?_ _ | refine blk_drew ?_ | refine blk_alloc ?_ _)); refine blk_put (cs := #[.int .i64 0, .slice none 0 0, .slice none 0 0, .slice none 0 0]) ?_ 0 _ rfl; (with_reducible repeat (first | refine blk_drewN ?_ _ | refine blk_drew ?_ | refine blk_alloc ?_ _)); exact BK279.out) Tryd.underlying56 rfl (by kernel_rfl)) rfl ?_
    exact ⟨ezz, bel⟩
  ·
   rw [if_neg c7] at H
   have c7b0 : (t282 == 0) = false := beq_eq_false_iff_ne.mpr c7
   have c7b1 : (t282 != 0) = true := bne_iff_ne.mpr c7
   simp only [Option.some.injEq, Prod.mk.injEq] at H
   obtain ⟨rfl, rfl⟩ := H
   go_enter Tryd.func22, Tryd.ntmps22
   go_wp2_with (first | ((with_reducible refine gate_dst (N := 3) rfl ?_); refine box_event ?hg (N := 3) ?hd (cs := #[.int .i64 a0_0, .slice A0_1 l0_1.length c0_1, .slice A0_2 l0_2.length c0_2]) (t := 25) ?hr ?_; (case hd => rfl); (case hg => rfl); (case hr => first | (go_simp; done) | (go_simp; rfl)); intro gb278 hg w65 hbox hb; have BK278 := Aside0.mk (hbox); have GW278 := bsz (w := w) hg; have GE278 := GW278; replace HB := Aside0.mk (below_step bel hb); clear hb hbox hg) | ((with_reducible refine gate_dst (N := 6) rfl ?_); refine box_event ?hg (N := 6) ?hd (cs := #[.int .i64 0, .slice none 0 0, .slice none 0 0, .slice none 0 0]) (t := 56) ?hr ?_; (case hd => rfl); (case hg => rfl); (case hr => first | (go_simp; done) | (go_simp; rfl)); intro gb279 hg w66 hbox hb; have BK279 := Aside0.mk (hbox); have GW279 := bsz (w := w) hg; have GE279 := GW279; have NB278_279 := neL (g := gb278) hg; have NB279_278 := neR (g := gb278) hg; replace BK278 := Aside0.mk (blk_below (g := gb278) blkz hb); replace HB := Aside0.mk (below_step bel hb); clear hb hbox hg; have hnb67 := NB278_279.out; have hnc67 := NB279_278.out; obtain ⟨hcz68_0, hcz68_1, hcz68_2⟩ := bc3 BK278.out) | ((with_reducible refine gate_dst (N := 8) rfl ?_); refine box_event ?hg (N := 8) ?hd (cs := #[.int .i64 0, .slice none 0 0, .slice none 0 0, .slice none 0 0]) (t := 56) ?hr ?_; (case hd => rfl); (case hg => rfl); (case hr => first | (go_simp; done) | (go_simp; rfl)); intro gb280 hg w69 hbox hb; have BK280 := Aside0.mk (hbox); have GW280 := bsz (w := w) hg; have GE280 := GW280; have NB278_280 := neL (g := gb278) hg; have NB280_278 := neR (g := gb278) hg; have NB279_280 := neL (g := gb279) hg; have NB280_279 := neR (g := gb279) hg; replace BK278 := Aside0.mk (blk_below (g := gb278) blkz hb); replace BK279 := Aside0.mk (blk_below (g := gb279) blkz hb); replace HB := Aside0.mk (below_step bel hb); clear hb hbox hg; have hnb70 := NB280_278.out; have hnc70 := NB278_280.out; have hnb71 := NB280_279.out; have hnc71 := NB279_280.out; obtain ⟨hcz72_0, hcz72_1, hcz72_2, hcz72_3⟩ := bc4 BK280.out; obtain ⟨hfz72_0, hfz72_1, hfz72_2, hfz72_3⟩ := bf4 BK280.out; obtain ⟨hcz73_0, hcz73_1, hcz73_2⟩ := bc3 BK278.out) | ((with_reducible refine gate_callee (f := 27) rfl ?_); refine goesL_ (some 15) rfl rfl Tryd.func27 (by kernel_rfl) rfl #[.agg #[.int .i64 a0_0, .slice A0_1 l0_1.length c0_1, .slice A0_2 l0_2.length c0_2]] rfl mapz ?_; (with_reducible refine (feed_Valid.calls a0_0 _ _ l0_1 _ _ l0_2 true _ (cbz HR0_1) HC0_1.out (cbz HR0_2) HC0_2.out A4.out).mono ?_); rintro e w74 ⟨rfl, hb⟩; refine ⟨_, rfl, ?_⟩; replace BK278 := Aside0.mk (blk_below (g := gb278) (o := .cells #[.int .i64 a0_0, .slice A0_1 l0_1.length c0_1, .slice A0_2 l0_2.length c0_2] 25 (0, 0)) (by (with_reducible repeat (first | refine blk_drewN ?_ _ | refine blk_drew ?_ | refine blk_alloc ?_ _)); refine blk_far ?_ NB278_280.out _; (with_reducible repeat (first | refine blk_drewN ?_ _ | refine blk_drew ?_ | refine blk_alloc ?_ _)); refine blk_far ?_ NB278_280.out _; (with_reducible repeat (first | refine blk_drewN ?_ _ | refine blk_drew ?_ | refine blk_alloc ?_ _)); refine blk_far ?_ NB278_280.out _; (with_reducible repeat (first | refine blk_drewN ?_ _ | refine blk_drew ?_ | refine blk_alloc ?_ _)); refine blk_far ?_ NB278_280.out _; (with_reducible repeat (first | refine blk_drewN ?_ _ | refine blk_drew ?_ | refine blk_alloc ?_ _)); exact BK278.out) hb); replace BK279 := Aside0.mk (blk_below (g := gb279) (o := .cells #[.int .i64 0, .slice none 0 0, .slice none 0 0, .slice none 0 0] 56 (0, 0)) (by (with_reducible repeat (first | refine blk_drewN ?_ _ | refine blk_drew ?_ | refine blk_alloc ?_ _)); refine blk_far ?_ NB279_280.out _; (with_reducible repeat (first | refine blk_drewN ?_ _ | refine blk_drew ?_ | refine blk_alloc ?_ _)); refine blk_far ?_ NB279_280.out _; (with_reducible repeat (first | refine blk_drewN ?_ _ | refine blk_drew ?_ | refine blk_alloc ?_ _)); refine blk_far ?_ NB279_280.out _; (with_reducible repeat (first | refine blk_drewN ?_ _ | refine blk_drew ?_ | refine blk_alloc ?_ _)); refine blk_far ?_ NB279_280.out _; (with_reducible repeat (first | refine blk_drewN ?_ _ | refine blk_drew ?_ | refine blk_alloc ?_ _)); exact BK279.out) hb); replace BK280 := Aside0.mk (blk_below (g := gb280) (o := .cells #[.int .i64 a0_0, .slice A0_1 l0_1.length c0_1, .slice A0_2 l0_2.length c0_2, .slice A2 l2.length c2] 56 (0, 0)) (by (with_reducible repeat (first | refine blk_drewN ?_ _ | refine blk_drew ?_ | refine blk_alloc ?_ _)); refine blk_put (cs := #[.int .i64 a0_0, .slice A0_1 l0_1.length c0_1, .slice A0_2 l0_2.length c0_2, .slice none 0 0]) ?_ 3 _ rfl; (with_reducible repeat (first | refine blk_drewN ?_ _ | refine blk_drew ?_ | refine blk_alloc ?_ _)); refine blk_put (cs := #[.int .i64 a0_0, .slice A0_1 l0_1.length c0_1, .slice none 0 0, .slice none 0 0]) ?_ 2 _ rfl; (with_reducible repeat (first | refine blk_drewN ?_ _ | refine blk_drew ?_ | refine blk_alloc ?_ _)); refine blk_put (cs := #[.int .i64 a0_0, .slice none 0 0, .slice none 0 0, .slice none 0 0]) ?_ 1 _ rfl; (with_reducible repeat (first | refine blk_drewN ?_ _ | refine blk_drew ?_ | refine blk_alloc ?_ _)); refine blk_put (cs := #[.int .i64 0, .slice none 0 0, .slice none 0 0, .slice none 0 0]) ?_ 0 _ rfl; (with_reducible repeat (first | refine blk_drewN ?_ _ | refine blk_drew ?_ | refine blk_alloc ?_ _)); exact BK280.out) hb); replace HB := Aside0.mk (below_step bel hb); clear hb; obtain ⟨hcz75_0, hcz75_1, hcz75_2, hcz75_3⟩ := bc4 BK280.out; obtain ⟨hfz75_0, hfz75_1, hfz75_2, hfz75_3⟩ := bf4 BK280.out) | ((with_reducible refine gate_callee (f := 28) rfl ?_); refine goesL_ (some 19) rfl rfl Tryd.func28 (by kernel_rfl) rfl #[.agg #[.int .i64 a0_0, .slice A0_1 l0_1.length c0_1, .slice A0_2 l0_2.length c0_2, .slice A2 l2.length c2]] rfl mapz ?_; (with_reducible refine (feed_rule_kept.calls k a0_0 _ _ l0_1 _ _ l0_2 _ _ l2 t282 _ (cbz HR0_1) HC0_1.out (cbz HR0_2) HC0_2.out (cbz HR2) HC2.out A6.out).mono ?_); rintro e w76 ⟨rfl, hb⟩; refine ⟨_, rfl, ?_⟩; replace BK278 := Aside0.mk (blk_below (g := gb278) blkz hb); replace BK279 := Aside0.mk (blk_below (g := gb279) blkz hb); replace BK280 := Aside0.mk (blk_below (g := gb280) blkz hb); replace HB := Aside0.mk (below_step bel hb); clear hb; obtain ⟨hcz77_0, hcz77_1, hcz77_2, hcz77_3⟩ := bc4 BK280.out; obtain ⟨hfz77_0, hfz77_1, hfz77_2, hfz77_3⟩ := bf4 BK280.out; obtain ⟨hcz78_0, hcz78_1, hcz78_2, hcz78_3⟩ := bc4 BK279.out; obtain ⟨hfz78_0, hfz78_1, hfz78_2, hfz78_3⟩ := bf4 BK279.out))
   refine bodyPost_ret (results_ct rfl _ _ gb279 56 #[.int .i64 a0_0, .slice A0_1 l0_1.length c0_1, .slice A0_2 l0_2.length c0_2, .slice A2 l2.length c2] (0, 0) _ rfl (by (with_reducible repeat (first | refine blk_drewN ?_ _ | refine blk_drew ?_ | refine blk_alloc ?_ _)); refine blk_put (cs := #[.int .i64 a0_0, .slice A0_1 l0_1.length c0_1, .slice A0_2 l0_2.length c0_2, .slice none 0 0]) ?_ 3 _ rfl; (with_reducible repeat (first | refine blk_drewN ?_ _ | refine blk_drew ?_ | refine blk_alloc ?_ _)); refine blk_put (cs := #[.int .i64 a0_0, .slice A0_1 l0_1.length c0_1, .slice none 0 0, .slice none 0 0]) ?_ 2 _ rfl; (with_reducible repeat (first | refine blk_drewN ?_ _ | refine blk_drew ?_ | refine blk_alloc ?_ _)); refine blk_put (cs := #[.int .i64 a0_0, .slice none 0 0, .slice none 0 0, .slice none 0 0]) ?_ 1 _ rfl; (with_reducible repeat (first | refine blk_drewN ?_ _ | refine blk_drew ?_ | refine blk_alloc ?_ _)); refine blk_put (cs := #[.int .i64 0, .slice none 0 0, .slice none 0 0, .slice none 0 0]) ?_ 0 _ rfl; (with_reducible repeat (first | refine blk_drewN ?_ _ | refine blk_drew ?_ | refine blk_alloc ?_ _)); exact BK279.out) Tryd.underlying56 rfl (by kernel_rfl)) rfl ?_
   exact ⟨ezz, bel⟩
 ·
  replace c5 := Bool.eq_false_iff.mpr c5
  subst c5
  rw [if_neg (show ¬ (false = true) by decide)] at H
  simp only [Option.some.injEq, Prod.mk.injEq] at H
  obtain ⟨rfl, rfl⟩ := H
  go_enter Tryd.func22, Tryd.ntmps22
  go_wp2_with (first | ((with_reducible refine gate_dst (N := 3) rfl ?_); refine box_event ?hg (N := 3) ?hd (cs := #[.int .i64 a0_0, .slice A0_1 l0_1.length c0_1, .slice A0_2 l0_2.length c0_2]) (t := 25) ?hr ?_; (case hd => rfl); (case hg => rfl); (case hr => first | (go_simp; done) | (go_simp; rfl)); intro gb278 hg w79 hbox hb; have BK278 := Aside0.mk (hbox); have GW278 := bsz (w := w) hg; have GE278 := GW278; replace HB := Aside0.mk (below_step bel hb); clear hb hbox hg) | ((with_reducible refine gate_dst (N := 6) rfl ?_); refine box_event ?hg (N := 6) ?hd (cs := #[.int .i64 0, .slice none 0 0, .slice none 0 0, .slice none 0 0]) (t := 56) ?hr ?_; (case hd => rfl); (case hg => rfl); (case hr => first | (go_simp; done) | (go_simp; rfl)); intro gb279 hg w80 hbox hb; have BK279 := Aside0.mk (hbox); have GW279 := bsz (w := w) hg; have GE279 := GW279; have NB278_279 := neL (g := gb278) hg; have NB279_278 := neR (g := gb278) hg; replace BK278 := Aside0.mk (blk_below (g := gb278) blkz hb); replace HB := Aside0.mk (below_step bel hb); clear hb hbox hg; have hnb81 := NB278_279.out; have hnc81 := NB279_278.out; obtain ⟨hcz82_0, hcz82_1, hcz82_2⟩ := bc3 BK278.out) | ((with_reducible refine gate_dst (N := 8) rfl ?_); refine box_event ?hg (N := 8) ?hd (cs := #[.int .i64 0, .slice none 0 0, .slice none 0 0, .slice none 0 0]) (t := 56) ?hr ?_; (case hd => rfl); (case hg => rfl); (case hr => first | (go_simp; done) | (go_simp; rfl)); intro gb280 hg w83 hbox hb; have BK280 := Aside0.mk (hbox); have GW280 := bsz (w := w) hg; have GE280 := GW280; have NB278_280 := neL (g := gb278) hg; have NB280_278 := neR (g := gb278) hg; have NB279_280 := neL (g := gb279) hg; have NB280_279 := neR (g := gb279) hg; replace BK278 := Aside0.mk (blk_below (g := gb278) blkz hb); replace BK279 := Aside0.mk (blk_below (g := gb279) blkz hb); replace HB := Aside0.mk (below_step bel hb); clear hb hbox hg; have hnb84 := NB280_278.out; have hnc84 := NB278_280.out; have hnb85 := NB280_279.out; have hnc85 := NB279_280.out; obtain ⟨hcz86_0, hcz86_1, hcz86_2, hcz86_3⟩ := bc4 BK280.out; obtain ⟨hfz86_0, hfz86_1, hfz86_2, hfz86_3⟩ := bf4 BK280.out; obtain ⟨hcz87_0, hcz87_1, hcz87_2⟩ := bc3 BK278.out) | ((with_reducible refine gate_callee (f := 27) rfl ?_); refine goesL_ (some 15) rfl rfl Tryd.func27 (by kernel_rfl) rfl #[.agg #[.int .i64 a0_0, .slice A0_1 l0_1.length c0_1, .slice A0_2 l0_2.length c0_2]] rfl mapz ?_; (with_reducible refine (feed_Valid.calls a0_0 _ _ l0_1 _ _ l0_2 false _ (cbz HR0_1) HC0_1.out (cbz HR0_2) HC0_2.out A4.out).mono ?_); rintro e w88 ⟨rfl, hb⟩; refine ⟨_, rfl, ?_⟩; replace BK278 := Aside0.mk (blk_below (g := gb278) (o := .cells #[.int .i64 a0_0, .slice A0_1 l0_1.length c0_1, .slice A0_2 l0_2.length c0_2] 25 (0, 0)) (by (with_reducible repeat (first | refine blk_drewN ?_ _ | refine blk_drew ?_ | refine blk_alloc ?_ _)); refine blk_far ?_ NB278_280.out _; (with_reducible repeat (first | refine blk_drewN ?_ _ | refine blk_drew ?_ | refine blk_alloc ?_ _)); refine blk_far ?_ NB278_280.out _; (with_reducible repeat (first | refine blk_drewN ?_ _ | refine blk_drew ?_ | refine blk_alloc ?_ _)); refine blk_far ?_ NB278_280.out _; (with_reducible repeat (first | refine blk_drewN ?_ _ | refine blk_drew ?_ | refine blk_alloc ?_ _)); refine blk_far ?_ NB278_280.out _; (with_reducible repeat (first | refine blk_drewN ?_ _ | refine blk_drew ?_ | refine blk_alloc ?_ _)); exact BK278.out) hb); replace BK279 := Aside0.mk (blk_below (g := gb279) (o := .cells #[.int .i64 0, .slice none 0 0, .slice none 0 0, .slice none 0 0] 56 (0, 0)) (by (with_reducible repeat (first | refine blk_drewN ?_ _ | refine blk_drew ?_ | refine blk_alloc ?_ _)); refine blk_far ?_ NB279_280.out _; (with_reducible repeat (first | refine blk_drewN ?_ _ | refine blk_drew ?_ | refine blk_alloc ?_ _)); refine blk_far ?_ NB279_280.out _; (with_reducible repeat (first | refine blk_drewN ?_ _ | refine blk_drew ?_ | refine blk_alloc ?_ _)); refine blk_far ?_ NB279_280.out _; (with_reducible repeat (first | refine blk_drewN ?_ _ | refine blk_drew ?_ | refine blk_alloc ?_ _)); refine blk_far ?_ NB279_280.out _; (with_reducible repeat (first | refine blk_drewN ?_ _ | refine blk_drew ?_ | refine blk_alloc ?_ _)); exact BK279.out) hb); replace BK280 := Aside0.mk (blk_below (g := gb280) (o := .cells #[.int .i64 a0_0, .slice A0_1 l0_1.length c0_1, .slice A0_2 l0_2.length c0_2, .slice A2 l2.length c2] 56 (0, 0)) (by (with_reducible repeat (first | refine blk_drewN ?_ _ | refine blk_drew ?_ | refine blk_alloc ?_ _)); refine blk_put (cs := #[.int .i64 a0_0, .slice A0_1 l0_1.length c0_1, .slice A0_2 l0_2.length c0_2, .slice none 0 0]) ?_ 3 _ rfl; (with_reducible repeat (first | refine blk_drewN ?_ _ | refine blk_drew ?_ | refine blk_alloc ?_ _)); refine blk_put (cs := #[.int .i64 a0_0, .slice A0_1 l0_1.length c0_1, .slice none 0 0, .slice none 0 0]) ?_ 2 _ rfl; (with_reducible repeat (first | refine blk_drewN ?_ _ | refine blk_drew ?_ | refine blk_alloc ?_ _)); refine blk_put (cs := #[.int .i64 a0_0, .slice none 0 0, .slice none 0 0, .slice none 0 0]) ?_ 1 _ rfl; (with_reducible repeat (first | refine blk_drewN ?_ _ | refine blk_drew ?_ | refine blk_alloc ?_ _)); refine blk_put (cs := #[.int .i64 0, .slice none 0 0, .slice none 0 0, .slice none 0 0]) ?_ 0 _ rfl; (with_reducible repeat (first | refine blk_drewN ?_ _ | refine blk_drew ?_ | refine blk_alloc ?_ _)); exact BK280.out) hb); replace HB := Aside0.mk (below_step bel hb); clear hb; obtain ⟨hcz89_0, hcz89_1, hcz89_2, hcz89_3⟩ := bc4 BK280.out; obtain ⟨hfz89_0, hfz89_1, hfz89_2, hfz89_3⟩ := bf4 BK280.out; obtain ⟨hcz90_0, hcz90_1, hcz90_2, hcz90_3⟩ := bc4 BK279.out; obtain ⟨hfz90_0, hfz90_1, hfz90_2, hfz90_3⟩ := bf4 BK279.out))
  refine bodyPost_ret (results_ct rfl _ _ gb279 56 #[.int .i64 a0_0, .slice A0_1 l0_1.length c0_1, .slice A0_2 l0_2.length c0_2, .slice A2 l2.length c2] (0, 0) _ rfl (by (with_reducible repeat (first | refine blk_drewN ?_ _ | refine blk_drew ?_ | refine blk_alloc ?_ _)); refine blk_put (cs := #[.int .i64 a0_0, .slice A0_1 l0_1.length c0_1, .slice A0_2 l0_2.length c0_2, .slice none 0 0]) ?_ 3 _ rfl; (with_reducible repeat (first | refine blk_drewN ?_ _ | refine blk_drew ?_ | refine blk_alloc ?_ _)); refine blk_put (cs := #[.int .i64 a0_0, .slice A0_1 l0_1.length c0_1, .slice none 0 0, .slice none 0 0]) ?_ 2 _ rfl; (with_reducible repeat (first | refine blk_drewN ?_ _ | refine blk_drew ?_ | refine blk_alloc ?_ _)); refine blk_put (cs := #[.int .i64 a0_0, .slice none 0 0, .slice none 0 0, .slice none 0 0]) ?_ 1 _ rfl; (with_reducible repeat (first | refine blk_drewN ?_ _ | refine blk_drew ?_ | refine blk_alloc ?_ _)); refine blk_put (cs := #[.int .i64 0, .slice none 0 0, .slice none 0 0, .slice none 0 0]) ?_ 0 _ rfl; (with_reducible repeat (first | refine blk_drewN ?_ _ | refine blk_drew ?_ | refine blk_alloc ?_ _)); exact BK279.out) Tryd.underlying56 rfl (by kernel_rfl)) rfl ?_
  exact ⟨ezz, bel⟩

/-! ### feed_rule_steps: function 31 -/
def feed_rule_steps.l0 : Nat → Int → List Int → Int → Int → Int → List (S47) → List (S49) → List Int → Option (List Int)
 | 0, _, _, _, _, _, _, _, _ => none
 | k + 1, x1, x5, x12, x13, x287000, x287001, x287002, x287003 => if x13 < x12 then (if 0 ≤ x13 then ((feed_rule_keeps.f k x287000 x287001 x287002 x287003 (Go.bits .xor .i64 x1 (shl .i64 1 x13))).bind fun t287 => (if t287 = true then (if x5.length < 17592186044416 then (feed_rule_steps.l0 k x1 (x5 ++ [Go.bits .xor .i64 x1 (shl .i64 1 x13)]) x12 (wrap64 (x13 + 1)) x287000 x287001 x287002 x287003) else (none)) else (if x5.length < 17592186044416 then (feed_rule_steps.l0 k x1 (x5 ++ [(-1)]) x12 (wrap64 (x13 + 1)) x287000 x287001 x287002 x287003) else (none)))) else (none)) else (some x5)
def feed_rule_steps.f (k : Nat) (a0_0 : Int) (l0_1 : List (S47)) (l0_2 : List (S49)) (l0_3 : List Int) (a1 : Int) : Option (List Int) := feed_rule_steps.l0 k a1 ([] : List Int) (l0_1.length : Int) 0 a0_0 l0_1 l0_2 l0_3
set_option maxHeartbeats 8000000 in
set_option maxRecDepth 100000 in
theorem feed_rule_steps.calls (k : Nat) (a0_0 : Int) (A0_1 : Option Addr) (c0_1 : Nat) (l0_1 : List (S47)) (A0_2 : Option Addr) (c0_2 : Nat) (l0_2 : List (S49)) (A0_3 : Option Addr) (c0_3 : Nat) (l0_3 : List Int) (a1 : Int) (r : List Int) (w : World) (hr0_1 : Kd.C k47 w A0_1 l0_1.length l0_1) (hc0_1 : l0_1.length ≤ c0_1) (hr0_2 : Kd.C k49 w A0_2 l0_2.length l0_2) (hc0_2 : l0_2.length ≤ c0_2) (hr0_3 : Kd.C (Kd.int .i64) w A0_3 l0_3.length l0_3) (hc0_3 : l0_3.length ≤ c0_3) (hT : Tab.Tabs w) (h : feed_rule_steps.f k a0_0 l0_1 l0_2 l0_3 a1 = some r) :
  Calls Tryd.prog 31 #[.agg #[.int .i64 a0_0, .slice A0_1 l0_1.length c0_1, .slice A0_2 l0_2.length c0_2, .slice A0_3 l0_3.length c0_3], .int .i64 a1] w fun e w' => ∃ v0_ : Value, e = .returned (v0_) ∧ Kd.R (Kd.int .i64) 3 w' w.heap.size (fun _ => True) v0_ r ∧ Below w.heap.size w w' := by
 have HT := Aside0.mk hT
 clear hT
 have hu56 := Tryd.underlying56
 have HR0_1 := Aside0.mk hr0_1
 have HC0_1 := Aside0.mk hc0_1
 clear hr0_1 hc0_1
 have HR0_2 := Aside0.mk hr0_2
 have HC0_2 := Aside0.mk hc0_2
 clear hr0_2 hc0_2
 have HR0_3 := Aside0.mk hr0_3
 have HC0_3 := Aside0.mk hc0_3
 clear hr0_3 hc0_3
 have HB := Aside0.mk (Below.refl w.heap.size w)
 have H : (feed_rule_steps.l0 k a1 ([] : List Int) (l0_1.length : Int) 0 a0_0 l0_1 l0_2 l0_3) = some r := h
 clear h
 have H' := Aside0.mk H
 clear H
 go_enter Tryd.func31, Tryd.ntmps31
 go_wp2_with (first | ((with_reducible refine gate_dst (N := 2) rfl ?_); refine box_event ?hg (N := 2) ?hd (cs := #[.int .i64 a0_0, .slice A0_1 l0_1.length c0_1, .slice A0_2 l0_2.length c0_2, .slice A0_3 l0_3.length c0_3]) (t := 56) ?hr ?_; (case hd => rfl); (case hg => rfl); (case hr => first | (go_simp; done) | (go_simp; rfl)); intro gb286 hg w3 hbox hb; have BK286 := Aside0.mk (hbox); have GW286 := bsz (w := w) hg; have GE286 := GW286; replace HB := Aside0.mk (below_step bel hb); clear hb hbox hg; obtain ⟨hcz4_0, hcz4_1, hcz4_2, hcz4_3⟩ := bc4 BK286.out))
 go_loopg [5, 13] k (fun kq v5 v13 w' => ∃ (x5_1 : List Int) (x13_1 : Int), v13 = .int .i64 x13_1 ∧ Aside0 (feed_rule_steps.l0 kq a1 x5_1 (l0_1.length : Int) x13_1 a0_0 l0_1 l0_2 l0_3 = some r) ∧ Aside0 (kq ≤ k) ∧ Aside0 (Kd.R (Kd.int .i64) 3 w' w.heap.size (fun _ => True) v5 x5_1) ∧ Aside0 (w'.heap[gb286]? = some (.cells #[.int .i64 a0_0, (.slice A0_1 l0_1.length c0_1), (.slice A0_2 l0_2.length c0_2), (.slice A0_3 l0_3.length c0_3)] 56 (0, 0))) ∧ Aside0 (Below w.heap.size w w'))
 case atStart => exact ⟨(([] : List Int)), (0), rsz, H', ⟨Nat.le_refl _⟩, ⟨by first | exact Kd.R_nil _ _ _ _ _ | exact Kd.N_nil _ _ _ _ _ | exact Kd.V_nil _ _ _ _ _ | exact Kd.Q_nil _ _ _ _ _ | exact Kd.S_nil _ _ _ _ _⟩, ⟨blkz⟩, ⟨bel⟩⟩
 case round =>
  clear H'
  (try clear p2); (try clear c3); (try clear hcz4_0); (try clear hcz4_1); (try clear hcz4_2); (try clear hcz4_3); (try clear hfz4_0); (try clear hfz4_1); (try clear hfz4_2); (try clear hfz4_3)
  obtain ⟨x5_1, x13_1, rfl, HA, HK1, HO_5, BK286, HB⟩ := hrel
  cases gk with
  | zero => exact absurd HA.out (by simp [feed_rule_steps.l0])
  | succ k1 =>
   have H := HA.out
   clear HA
   simp only [feed_rule_steps.l0] at H
   by_cases c5 : x13_1 < (l0_1.length : Int)
   ·
    rw [if_pos c5] at H
    have c5b0 : decide (x13_1 < (l0_1.length : Int)) = true := decide_eq_true c5
    clear c5
    by_cases c6 : 0 ≤ x13_1
    ·
     rw [if_pos c6] at H
     have c6b0 := eq_true c6
     have c6b1 : decide (0 ≤ x13_1) = true := decide_eq_true c6
     clear c6
     obtain ⟨ji7, hji7⟩ : ∃ j_ : Int, (shl .i64 1 x13_1) = j_ := ⟨_, rfl⟩
     replace H : ((feed_rule_keeps.f k1 a0_0 l0_1 l0_2 l0_3 (Go.bits .xor .i64 a1 (ji7))).bind fun t287 => (if t287 = true then (if x5_1.length < 17592186044416 then (feed_rule_steps.l0 k1 a1 (x5_1 ++ [Go.bits .xor .i64 a1 (ji7)]) (l0_1.length : Int) (wrap64 (x13_1 + 1)) a0_0 l0_1 l0_2 l0_3) else (none)) else (if x5_1.length < 17592186044416 then (feed_rule_steps.l0 k1 a1 (x5_1 ++ [(-1)]) (l0_1.length : Int) (wrap64 (x13_1 + 1)) a0_0 l0_1 l0_2 l0_3) else (none)))) = some r := by first | (rw [hji7] at H; exact H) | (simp only [hji7] at H ⊢; exact H)
     have hji7_ : (IntKind.i64.wrap (1 * 2 ^ min x13_1.toNat 64)) = ji7 := hji7
     have hji7z : x13_1 ≤ 64 → (IntKind.i64.wrap (1 * 2 ^ x13_1.toNat)) = ji7 := shl_small hji7
     have hji7u : (IntKind.i64.wrap (2 ^ min x13_1.toNat 64)) = ji7 := by have h_ := hji7_; rw [Int.one_mul] at h_; exact h_
     have hji7v : x13_1 ≤ 64 → (IntKind.i64.wrap (2 ^ x13_1.toNat)) = ji7 := fun hle_ => by have h_ := hji7z hle_; rw [Int.one_mul] at h_; exact h_
     have hji7y : (wrap64 (1 * 2 ^ min x13_1.toNat 64)) = ji7 := (i64_w _).symm.trans hji7_
     have hji7x : x13_1 ≤ 64 → (wrap64 (1 * 2 ^ x13_1.toNat)) = ji7 := fun h_ => (i64_w _).symm.trans (hji7z h_)
     replace H := Option.bind_eq_some_iff.mp H
     obtain ⟨t287, A80, H⟩ := H
     try dsimp only at H
     have A8 := Aside0.mk A80
     clear A80
     by_cases c9 : t287 = true
     ·
      subst c9
      rw [if_pos rfl] at H
      by_cases c10 : x5_1.length < 17592186044416
      ·
       rw [if_pos c10] at H
       have LMc10 := Aside0.mk c10
       clear c10
       obtain ⟨y288, hy288⟩ : ∃ y_ : List Int, y_ = (x5_1 ++ [Go.bits .xor .i64 a1 (ji7)]) := ⟨_, rfl⟩
       replace H : (feed_rule_steps.l0 k1 a1 y288 (l0_1.length : Int) (wrap64 (x13_1 + 1)) a0_0 l0_1 l0_2 l0_3) = some r := by first | (rw [hy288]; with_reducible exact H) | (have H2_ := (Option.bind_some _ _).symm.trans H; rw [hy288]; with_reducible exact H2_) | (have H2_ := (Option.bind_some _ _).symm.trans H; with_reducible exact H2_) | with_reducible exact H | (rw [hy288]; exact H) | exact H
       have Ny288 := Aside0.mk hy288
       clear hy288
       have H' := Aside0.mk H
       clear H
       obtain ⟨hcz11_0, hcz11_1, hcz11_2, hcz11_3⟩ := bc4 BK286.out
       obtain ⟨hfz11_0, hfz11_1, hfz11_2, hfz11_3⟩ := bf4 BK286.out
       go_wp2_with (first | ((with_reducible refine gate_callee (f := 29) rfl ?_); refine goesL_ (some 22) rfl rfl Tryd.func29 (by kernel_rfl) rfl #[.agg #[.int .i64 a0_0, .slice A0_1 l0_1.length c0_1, .slice A0_2 l0_2.length c0_2, .slice A0_3 l0_3.length c0_3], .int .i64 (Go.bits .xor .i64 a1 (ji7))] rfl (by (try simp only [List.map_toArray, List.map_cons, List.map_nil]); first | done | (simp only [hji7]; rfl) | rfl | (simp only [List.length_drop, List.length_take]; rfl)) ?_; (with_reducible refine (feed_rule_keeps.calls k1 a0_0 _ _ l0_1 _ _ l0_2 _ _ l0_3 (Go.bits .xor .i64 a1 (ji7)) true _ (cbz HR0_1) HC0_1.out (cbz HR0_2) HC0_2.out (cbz HR0_3) HC0_3.out (tbz HT) A8.out).mono ?_); rintro e w12 ⟨rfl, hb⟩; refine ⟨_, rfl, ?_⟩; replace HO_5 := Aside0.mk (Kd.R_below (ownx HO_5) hb); replace BK286 := Aside0.mk (blk_below (g := gb286) blkz hb); replace HB := Aside0.mk (below_step bel hb); clear hb) | ((with_reducible refine gate_builtin (b := .append) (xs := #[.tmp 24, .tmp 26]) rfl ?_); at_builtin; refine Kd.R_append (Kd.int .i64) (w0 := w) w.heap.size rfl (.tmp 24) (.tmp 26) 26 3 (.int .i64 0) 8 rfl Tryd.underlying26 info3 rfl (by decide) (by omega) u5 x5_1 (Go.bits .xor .i64 a1 (ji7)) [.int .i64 (Go.bits .xor .i64 a1 (ji7))] (fun _ => True) (fun _ => False) rfl rfl ?aP (fun _ hk => hk.elim) ?aF ?aO ?aB ?aS ?aL ?_; (case aP => exact rfl); (case aB => exact bel); (case aF => exact (fun _ _ => trivial)); (case aO => exact (ownx HO_5)); (case aS => exact (below_size bel)); (case aL => have := LMc10.out; omega); intro v289 w13 ho hb hg hat; rw [← Ny288.out] at ho; have n0_ := Aside0.mk (blk_grown (g := gb286) (o := .cells #[.int .i64 a0_0, .slice A0_1 l0_1.length c0_1, .slice A0_2 l0_2.length c0_2, .slice A0_3 l0_3.length c0_3] 56 (0, 0)) blkz hg (Kd.R_ne HO_5.out BK286.out (by decide))); have n1_ := Aside0.mk (hb); have n2_ := Aside0.mk (ho); clear BK286; clear HB; clear HO_5; have BK286 := n0_; have HB := n1_; have HO290 := n2_; clear n0_ n1_ n2_; clear ho hb hg hat))
       go_roundg k1
       case measure => have := HK1.out; omega
       case rel => exact ⟨(y288), (wrap64 (x13_1 + 1)), rsz, H', ⟨by have := HK1.out; omega⟩, ⟨by (with_reducible repeat (first | apply Kd.R_alloc | apply Kd.R_drewN | apply Kd.R_drew)); exact HO290.out⟩, ⟨blkz⟩, ⟨bel⟩⟩
      ·
       rw [if_neg c10] at H
       exact absurd H (by simp)
     ·
      replace c9 := Bool.eq_false_iff.mpr c9
      subst c9
      rw [if_neg (show ¬ (false = true) by decide)] at H
      by_cases c14 : x5_1.length < 17592186044416
      ·
       rw [if_pos c14] at H
       have LMc14 := Aside0.mk c14
       clear c14
       obtain ⟨y291, hy291⟩ : ∃ y_ : List Int, y_ = (x5_1 ++ [(-1)]) := ⟨_, rfl⟩
       replace H : (feed_rule_steps.l0 k1 a1 y291 (l0_1.length : Int) (wrap64 (x13_1 + 1)) a0_0 l0_1 l0_2 l0_3) = some r := by first | (rw [hy291]; with_reducible exact H) | (have H2_ := (Option.bind_some _ _).symm.trans H; rw [hy291]; with_reducible exact H2_) | (have H2_ := (Option.bind_some _ _).symm.trans H; with_reducible exact H2_) | with_reducible exact H | (rw [hy291]; exact H) | exact H
       have Ny291 := Aside0.mk hy291
       clear hy291
       have H' := Aside0.mk H
       clear H
       obtain ⟨hcz15_0, hcz15_1, hcz15_2, hcz15_3⟩ := bc4 BK286.out
       obtain ⟨hfz15_0, hfz15_1, hfz15_2, hfz15_3⟩ := bf4 BK286.out
       go_wp2_with (first | ((with_reducible refine gate_callee (f := 29) rfl ?_); refine goesL_ (some 22) rfl rfl Tryd.func29 (by kernel_rfl) rfl #[.agg #[.int .i64 a0_0, .slice A0_1 l0_1.length c0_1, .slice A0_2 l0_2.length c0_2, .slice A0_3 l0_3.length c0_3], .int .i64 (Go.bits .xor .i64 a1 (ji7))] rfl (by (try simp only [List.map_toArray, List.map_cons, List.map_nil]); first | done | (simp only [hji7]; rfl) | rfl | (simp only [List.length_drop, List.length_take]; rfl)) ?_; (with_reducible refine (feed_rule_keeps.calls k1 a0_0 _ _ l0_1 _ _ l0_2 _ _ l0_3 (Go.bits .xor .i64 a1 (ji7)) false _ (cbz HR0_1) HC0_1.out (cbz HR0_2) HC0_2.out (cbz HR0_3) HC0_3.out (tbz HT) A8.out).mono ?_); rintro e w16 ⟨rfl, hb⟩; refine ⟨_, rfl, ?_⟩; replace HO_5 := Aside0.mk (Kd.R_below (ownx HO_5) hb); replace BK286 := Aside0.mk (blk_below (g := gb286) blkz hb); replace HB := Aside0.mk (below_step bel hb); clear hb) | ((with_reducible refine gate_builtin (b := .append) (xs := #[.tmp 24, .tmp 26]) rfl ?_); at_builtin; refine Kd.R_append (Kd.int .i64) (w0 := w) w.heap.size rfl (.tmp 24) (.tmp 26) 26 3 (.int .i64 0) 8 rfl Tryd.underlying26 info3 rfl (by decide) (by omega) u5 x5_1 (-1) [.int .i64 (-1)] (fun _ => True) (fun _ => False) rfl rfl ?aP (fun _ hk => hk.elim) ?aF ?aO ?aB ?aS ?aL ?_; (case aP => exact rfl); (case aB => exact bel); (case aF => exact (fun _ _ => trivial)); (case aO => exact (ownx HO_5)); (case aS => exact (below_size bel)); (case aL => have := LMc14.out; omega); intro v292 w17 ho hb hg hat; rw [← Ny291.out] at ho; have n0_ := Aside0.mk (blk_grown (g := gb286) (o := .cells #[.int .i64 a0_0, .slice A0_1 l0_1.length c0_1, .slice A0_2 l0_2.length c0_2, .slice A0_3 l0_3.length c0_3] 56 (0, 0)) blkz hg (Kd.R_ne HO_5.out BK286.out (by decide))); have n1_ := Aside0.mk (hb); have n2_ := Aside0.mk (ho); clear BK286; clear HB; clear HO_5; have BK286 := n0_; have HB := n1_; have HO293 := n2_; clear n0_ n1_ n2_; clear ho hb hg hat))
       go_roundg k1
       case measure => have := HK1.out; omega
       case rel => exact ⟨(y291), (wrap64 (x13_1 + 1)), rsz, H', ⟨by have := HK1.out; omega⟩, ⟨by (with_reducible repeat (first | apply Kd.R_alloc | apply Kd.R_drewN | apply Kd.R_drew)); exact HO293.out⟩, ⟨blkz⟩, ⟨bel⟩⟩
      ·
       rw [if_neg c14] at H
       exact absurd H (by simp)
    ·
     rw [if_neg c6] at H
     exact absurd H (by simp)
   ·
    rw [if_neg c5] at H
    have c5b0 : decide (x13_1 < (l0_1.length : Int)) = false := decide_eq_false c5
    clear c5
    obtain rfl := Option.some.inj H
    go_wp2
    go_ret
    exact ⟨_, ezz, by (with_reducible repeat (first | apply Kd.R_alloc | apply Kd.R_drewN | apply Kd.R_drew)); exact HO_5.out, bel⟩

/-! ### slices_Clone_int_int: function 45 -/
def slices_Clone_int_int.f (l0 : List Int) : Option (List Int) := if l0.length * 8 ≤ 140737488351232 then some l0 else none
theorem slices_Clone_int_int.calls (A0 : Option Addr) (c0 : Nat) (l0 : List Int) (r : List Int) (w : World) (hr0 : Kd.C (Kd.int .i64) w A0 l0.length l0) (hc0 : l0.length ≤ c0) (h : slices_Clone_int_int.f l0 = some r) :
  Calls Tryd.prog 45 #[.slice A0 l0.length c0] w fun e w' => ∃ v0_ : Value, e = .returned (v0_) ∧ Kd.R (Kd.int .i64) 3 w' w.heap.size (fun _ => True) v0_ r ∧ Below w.heap.size w w' := by
 unfold slices_Clone_int_int.f at h
 by_cases hl : ¬ l0.length * 8 ≤ 140737488351232
 ·
  rw [if_neg hl] at h; cases h
 replace hl := Decidable.not_not.1 hl
 rw [if_pos hl] at h
 obtain rfl := Option.some.inj h
 cases l0 with
 | nil =>
  cases A0 with
  | none =>
   refine (Tryd.slices_Clone_int_nil 0 c0 w).mono ?_
   rintro e w' ⟨rfl, rfl⟩
   exact ⟨_, rfl, Kd.R_nil _ _ _ _ _, Below.refl _ _⟩
  | some a =>
   refine (Tryd.slices_Clone_int_zero a c0 w).mono ?_
   rintro e w' ⟨v', rfl, ho, _, hb⟩
   exact ⟨v', rfl, Kd.R_of_own (enc := Value.int .i64) (h1 := fun _ => rfl) ho (fun _ _ => trivial), hb⟩
 | cons x l =>
  have hcell : ∀ j, j < (x :: l).length → ∃ ad, A0 = some ad ∧ w.cell? (ad.add j) = some (.int .i64 ((x :: l).getD j 0)) := by
   intro j hj
   obtain ⟨ad, e1, hx⟩ := Kd.at_int hr0 (j : Int) (by omega) (by omega)
   refine ⟨ad, e1, ?_⟩
   rw [Int.toNat_natCast] at hx
   rw [hx]; simp [rd]
  obtain ⟨ad, rfl, h0⟩ := hcell 0 (by simp)
  have hsp : ad.spot = none := by
   have e : ad.add 0 = ad := by simp [Addr.add]
   rw [e] at h0
   unfold World.cell? at h0
   split at h0
   ·
    split at h0
    ·
     cases h0
    ·
     rename_i hs; simpa using hs
   ·
    cases h0
  obtain ⟨b, off, sp⟩ := ad
  simp only at hsp
  subst hsp
  refine (Tryd.slices_Clone_int b off (x :: l).length c0 (x :: l) w (Nat.le_refl _) (by omega) (fun j hj => ?_)).mono ?_
  ·
   obtain ⟨ad, e1, hx⟩ := hcell j hj
   cases e1
   have e : (⟨b, off, none⟩ : Addr).add j = ⟨b, off + j, none⟩ := by unfold Addr.add; split <;> simp_all
   rw [e] at hx
   exact hx
  ·
   rintro e w' ⟨v', rfl, ho, _, hb⟩
   rw [List.take_of_length_le (Nat.le_refl _)] at ho
   exact ⟨v', rfl, Kd.R_of_own (enc := Value.int .i64) (h1 := fun _ => rfl) ho (fun _ _ => trivial), hb⟩

/-! ### feed_rule_reach: function 23 -/
def feed_rule_reach.wf (x : Int) : Prop := -9223372036854775808 ≤ x ∧ x ≤ 9223372036854775807
instance (x : Int) : Decidable (feed_rule_reach.wf x) := inferInstanceAs (Decidable (_ ∧ _))
theorem feed_rule_reach.wf_lit {x : Int} (h : feed_rule_reach.wf x) : (Lit.int .i64 x).wf = true := by
 obtain ⟨h0, h1⟩ := h
 exact WalkArith.wf_i64 ⟨h0, h1⟩
def feed_rule_reach.inner : List Int → Int → List Int → List (Int × List Int) → Option (List (Int × List Int))
 | [], _, _, q => some q
 | nx :: t, s, zs, q => if feed_rule_reach.wf nx ∧ q.length < 1000000 ∧ zs.length < 1000000 then (if 0 ≤ nx ∧ hasKey q nx = false then feed_rule_reach.inner t (s + 1) zs (q ++ [(nx, zs ++ [s])]) else feed_rule_reach.inner t (s + 1) zs q) else none
def feed_rule_reach.go : Nat → Int → List S47 → List S49 → List Int → Nat → List (Int × List Int) → Option (List (Int × List Int))
 | 0, _, _, _, _, _, _ => none
 | k + 1, a0_0, l0_1, l0_2, l0_3, i, q => if h : i < q.length then ((feed_rule_steps.f k a0_0 l0_1 l0_2 l0_3 q[i].1).bind fun st => (feed_rule_reach.inner st 0 q[i].2 q).bind fun q' => feed_rule_reach.go k a0_0 l0_1 l0_2 l0_3 (i + 1) q') else some q
def feed_rule_reach.f (k : Nat) (a0_0 : Int) (l0_1 : List S47) (l0_2 : List S49) (l0_3 : List Int) (a1 : Int) : Option (List (Int × List Int)) :=
 if feed_rule_reach.wf a1 then feed_rule_reach.go k a0_0 l0_1 l0_2 l0_3 0 [(a1, [])] else none
def feed_rule_reach.Rel (w W : World) (b gb : Nat) (cs : Array Value) (S Z : Nat → Prop) (v6 : Value) (q : List (Int × List Int)) : Prop :=
 RMap Tryd.prog 3 3 W w.heap.size b q.length S q ∧ (Kd.int .i64).R 3 W w.heap.size (fun j => ¬ S j ∧ ¬ Z j ∧ j ≠ b) v6 (q.map Prod.fst) ∧ (∀ j, S j → j < W.heap.size ∧ j ≠ b ∧ ¬ Z j) ∧
  W.heap[gb]? = some (.cells cs 56 (0, 0)) ∧ Below w.heap.size w W ∧ w.heap.size ≤ b ∧ (∀ p ∈ q, feed_rule_reach.wf p.1) ∧ (∀ j, Z j → j < W.heap.size)
theorem feed_rule_reach.R_ok {e : Nat} {W : World} {base : Nat} {ok ok' : Nat → Prop} {v : Value} {xs : List Int} (h : (Kd.int .i64).R e W base ok v xs) (hok : ∀ k, v.ownBlock = some k → ok k → base ≤ k → k < W.heap.size → ok' k) : (Kd.int .i64).R e W base ok' v xs := by
 obtain ⟨h1, inner, ho, hr⟩ := Kd.R_bound h
 refine ⟨fun k hk => ?_, inner, ho, hr.imp_ (fun _ _ hp => hp)⟩
 obtain ⟨a, b, c, _⟩ := h1 k hk
 exact hok k hk a b c
section
variable {w W W1 : World} {b gb : Nat} {cs : Array Value} {S Z : Nat → Prop} {v6 : Value} {q : List (Int × List Int)}
theorem feed_rule_reach.Rel.below (h : feed_rule_reach.Rel w W b gb cs S Z v6 q) (hb : Below W.heap.size W W1) : feed_rule_reach.Rel w W1 b gb cs S Z v6 q := by
 obtain ⟨h1, h2, h3, h4, h5, h6, h7, h8⟩ := h
 have hs := below_size hb
 exact ⟨h1.below hb, Kd.R_below h2 hb, fun j hj => ⟨Nat.lt_of_lt_of_le (h3 j hj).1 hs, (h3 j hj).2⟩, (hb.block gb (blk_lt h4)).trans h4, below_step h5 hb, h6, h7, fun j hj => Nat.lt_of_lt_of_le (h8 j hj) hs⟩
theorem feed_rule_reach.Rel.drew (h : feed_rule_reach.Rel w W b gb cs S Z v6 q) : feed_rule_reach.Rel w W.drew b gb cs S Z v6 q := by
 obtain ⟨h1, h2, h3, h4, h5, h6, h7, h8⟩ := h
 exact ⟨h1.drew, Kd.R_drew h2, h3, blk_drew h4, below_drew1 h5, h6, h7, h8⟩
theorem feed_rule_reach.Rel.drewN (h : feed_rule_reach.Rel w W b gb cs S Z v6 q) (m : Nat) : feed_rule_reach.Rel w (W.drewN m) b gb cs S Z v6 q := by
 obtain ⟨h1, h2, h3, h4, h5, h6, h7, h8⟩ := h
 exact ⟨h1.drewN m, Kd.R_drewN h2 m, h3, blk_drewN h4 m, pw_below_drewN h5 m, h6, h7, h8⟩
theorem feed_rule_reach.Rel.zone (h : feed_rule_reach.Rel w W b gb cs S (fun _ => False) v6 q) (hb : Below W.heap.size W W1) : feed_rule_reach.Rel w W1 b gb cs S (fun j => W.heap.size ≤ j ∧ j < W1.heap.size) v6 q := by
 obtain ⟨h1, h2, h3, h4, h5, h6, h7, h8⟩ := h
 have hs := below_size hb
 refine ⟨h1.below hb, Kd.R_below (feed_rule_reach.R_ok h2 (fun k _ hk _ hl => ⟨hk.1, fun hz => ?_, hk.2.2⟩)) hb, fun j hj => ⟨Nat.lt_of_lt_of_le (h3 j hj).1 hs, (h3 j hj).2.1, fun hz => ?_⟩, (hb.block gb (blk_lt h4)).trans h4, below_step h5 hb, h6, h7, fun j hj => hj.2⟩
 ·
  have := hz.1; omega
 ·
  have := hz.1; have := (h3 j hj).1; omega
theorem feed_rule_reach.Rel.unzone (h : feed_rule_reach.Rel w W b gb cs S Z v6 q) : feed_rule_reach.Rel w W b gb cs S (fun _ => False) v6 q := by
 obtain ⟨h1, h2, h3, h4, h5, h6, h7, h8⟩ := h
 exact ⟨h1, feed_rule_reach.R_ok h2 (fun k _ hk _ _ => ⟨hk.1, fun hz => hz.elim, hk.2.2⟩), fun j hj => ⟨(h3 j hj).1, (h3 j hj).2.1, fun hz => hz.elim⟩, h4, h5, h6, h7, fun j hj => hj.elim⟩
theorem feed_rule_reach.Rel.put {W0 W2 : World} {v2 : Value} {nx : Int} {zs : List Int} (h : feed_rule_reach.Rel w W0 b gb cs S Z v6 q) (hb : Below W0.heap.size W0 W1) (hv2 : (Kd.int .i64).R 3 W1 W0.heap.size (fun _ => True) v2 zs)
  (hm : RMap Tryd.prog 3 3 W2 w.heap.size b (q.length + 1) (fun j => S j ∨ v2.ownBlock = some j) (q ++ [(nx, zs)])) (hg2 : W1.grownBy W2 (some b)) (hw : feed_rule_reach.wf nx) :
  (Kd.int .i64).R 3 W2 w.heap.size (fun j => ¬ (S j ∨ v2.ownBlock = some j) ∧ ¬ Z j ∧ j ≠ b) v6 (q.map Prod.fst) ∧ Below w.heap.size w W2 ∧ w.heap.size ≤ W2.heap.size ∧
  (∀ j, W2.heap.size ≤ j → ¬ (S j ∨ v2.ownBlock = some j) ∧ ¬ Z j ∧ j ≠ b) ∧ W2.heap[gb]? = some (.cells cs 56 (0, 0)) ∧ (∀ j, (S j ∨ v2.ownBlock = some j) → j < W2.heap.size ∧ j ≠ b ∧ ¬ Z j) ∧ (∀ j, Z j → j < W2.heap.size) := by
 obtain ⟨h1, h2, h3, h4, h5, h6, h7, h8⟩ := h
 have hs := below_size hb
 have hs2 := hg2.size
 have hbl := h1.lt
 have hblk : ∀ j, v2.ownBlock = some j → W0.heap.size ≤ j ∧ j < W1.heap.size := fun j hj => by
  obtain ⟨_, _, ho, _⟩ := hv2
  exact ⟨own_base ho j hj, own_lt ho j hj⟩
 have e2 : (Kd.int .i64).R 3 W1 w.heap.size (fun j => ¬ (S j ∨ v2.ownBlock = some j) ∧ ¬ Z j ∧ j ≠ b) v6 (q.map Prod.fst) :=
  Kd.R_below (feed_rule_reach.R_ok h2 (fun k _ hk _ hl => ⟨fun e => e.elim hk.1 (fun e => by have := (hblk k e).1; omega), hk.2⟩)) hb
 refine ⟨Kd.R_grown e2 hg2 (fun k hk e => hk.2.2 (by injection e)), (below_step h5 hb).grown hg2 (Nat.le_trans (below_size h5) hs) (fun j hj => by cases hj; exact h6), by have := below_size h5; omega, fun j hj => ⟨fun e => e.elim (fun e => ?_) (fun e => ?_), fun e => ?_, fun e => ?_⟩, ?_, fun j hj => ?_, fun j hj => by have := h8 j hj; omega⟩
 ·
  have := (h3 j e).1; omega
 ·
  have := (hblk j e).2; omega
 ·
  have := h8 j e; omega
 ·
  omega
 ·
  have hgl := blk_lt h4
  have hgb : some gb ≠ some b := fun e => by
   injection e with e
   obtain ⟨D, ⟨es, clock, hm0, _⟩, _⟩ := h1
   rw [e, hm0] at h4
   cases h4
  exact (hg2.block gb (Nat.lt_of_lt_of_le hgl hs) hgb).trans ((hb.block gb hgl).trans h4)
 ·
  rcases hj with hj | hj
  ·
   have := h3 j hj
   exact ⟨by omega, this.2⟩
  ·
   have := hblk j hj
   exact ⟨by omega, by omega, fun e => by have := h8 j e; omega⟩
theorem feed_rule_reach.Rel.fin {S' : Nat → Prop} {v6' : Value} {nx : Int} {zs : List Int} (hm : RMap Tryd.prog 3 3 W w.heap.size b (q.length + 1) S' (q ++ [(nx, zs)])) (hq : (Kd.int .i64).R 3 W w.heap.size (fun j => ¬ S' j ∧ ¬ Z j ∧ j ≠ b) v6 (q.map Prod.fst))
  (hg : W.grownBy W1 v6.ownBlock) (ho : (Kd.int .i64).R 3 W1 w.heap.size (fun j => ¬ S' j ∧ ¬ Z j ∧ j ≠ b) v6' (q.map Prod.fst ++ [nx])) (hb : Below w.heap.size w W1) (hS : ∀ j, S' j → j < W.heap.size ∧ j ≠ b ∧ ¬ Z j) (hZ : ∀ j, Z j → j < W.heap.size)
  (h4 : W.heap[gb]? = some (.cells cs 56 (0, 0))) (hbb : w.heap.size ≤ b) (hw : ∀ p ∈ q, feed_rule_reach.wf p.1) (hwn : feed_rule_reach.wf nx) : feed_rule_reach.Rel w W1 b gb cs S' Z v6' (q ++ [(nx, zs)]) := by
 have hs := hg.size
 have hne : ∀ j, v6.ownBlock = some j → ¬ S' j ∧ ¬ Z j ∧ j ≠ b := hq.1
 have hgb : some gb ≠ v6.ownBlock := Kd.R_ne hq h4 (by decide)
 refine ⟨?_, ?_, fun j hj => ⟨by have := (hS j hj).1; omega, (hS j hj).2⟩, (hg.block gb (blk_lt h4) hgb).trans h4, hb, hbb, fun p hp => ?_, fun j hj => by have := hZ j hj; omega⟩
 ·
  rw [List.length_append]
  exact hm.grown hg (fun e => (hne b e.symm).2.2 rfl) (fun j hj e => (hne j e.symm).1 hj)
 ·
  rw [List.map_append]
  exact ho
 ·
  rcases List.mem_append.1 hp with hp | hp
  ·
   exact hw p hp
  ·
   rw [List.mem_singleton] at hp; subst hp; exact hwn
end
set_option maxHeartbeats 8000000 in
set_option maxRecDepth 100000 in
theorem feed_rule_reach.calls (k : Nat) (a0_0 : Int) (A0_1 : Option Addr) (c0_1 : Nat) (l0_1 : List S47) (A0_2 : Option Addr) (c0_2 : Nat) (l0_2 : List S49) (A0_3 : Option Addr) (c0_3 : Nat) (l0_3 : List Int) (a1 : Int) (r : List (Int × List Int)) (w : World) (hr0_1 : Kd.C k47 w A0_1 l0_1.length l0_1) (hc0_1 : l0_1.length ≤ c0_1) (hr0_2 : Kd.C k49 w A0_2 l0_2.length l0_2) (hc0_2 : l0_2.length ≤ c0_2) (hr0_3 : Kd.C (Kd.int .i64) w A0_3 l0_3.length l0_3) (hc0_3 : l0_3.length ≤ c0_3) (hT : Tab.Tabs w) (h : feed_rule_reach.f k a0_0 l0_1 l0_2 l0_3 a1 = some r) :
  Calls Tryd.prog 23 #[.agg #[.int .i64 a0_0, .slice A0_1 l0_1.length c0_1, .slice A0_2 l0_2.length c0_2, .slice A0_3 l0_3.length c0_3], .int .i64 a1] w fun e w' => ∃ (b : Nat) (S : Nat → Prop), e = .returned (.map (some b)) ∧ RMap Tryd.prog 3 3 w' w.heap.size b r.length S r ∧ (∀ p ∈ r, feed_rule_reach.wf p.1) ∧ Below w.heap.size w w' := by
 have hu := Tryd.underlying25
 have hu2 := Tryd.underlying54
 have hu3 := Tryd.underlying56
 have HT := Aside0.mk hT
 have HR0_1 := Aside0.mk hr0_1
 have HR0_2 := Aside0.mk hr0_2
 have HR0_3 := Aside0.mk hr0_3
 have HC0_1 := Aside0.mk hc0_1
 have HC0_2 := Aside0.mk hc0_2
 have HC0_3 := Aside0.mk hc0_3
 clear hr0_1 hr0_2 hr0_3 hT hc0_1 hc0_2 hc0_3
 unfold feed_rule_reach.f at h
 by_cases hwf : ¬ feed_rule_reach.wf a1
 ·
  rw [if_neg hwf] at h; cases h
 replace hwf := Decidable.not_not.1 hwf
 rw [if_pos hwf] at h
 have H := Aside0.mk h
 have HW := Aside0.mk hwf
 have hmm := @run_makeMap Tryd.prog
 clear h hwf
 obtain ⟨w0, hw0⟩ : ∃ w0, w0 = w.alloc (.cells #[.int .i64 a0_0, .slice A0_1 l0_1.length c0_1, .slice A0_2 l0_2.length c0_2, .slice A0_3 l0_3.length c0_3] 56) := ⟨_, rfl⟩
 have s0 : w0.heap.size = w.heap.size + 1 := by rw [hw0]; exact Array.size_push ..
 have m0 := RMap.made Tryd.prog 3 3 w0 w.heap.size (fun _ => False)
 rw [s0] at m0
 obtain ⟨w2, hrun, hR2, hg2⟩ := m0.store (t := 59) (E := 26) Tryd.underlying59 Tryd.underlying3 (by decide) (feed_rule_reach.wf_lit HW.out) (fun _ h => by cases h) rfl (v := .slice none 0 0) (zs := []) (S' := fun _ => False) (Kd.R_nil _ _ _ _ _) (fun _ h => h) (fun h => h)
 have B0 : w0.heap[w.heap.size]? = some (.cells #[.int .i64 a0_0, .slice A0_1 l0_1.length c0_1, .slice A0_2 l0_2.length c0_2, .slice A0_3 l0_3.length c0_3] 56 (0, 0)) := by rw [hw0]; exact blk_new _ _
 have HB0 : Below w.heap.size w w0 := by rw [hw0]; exact below_alloc (Below.refl _ _) _
 have hs2 : w.heap.size + 2 ≤ w2.heap.size := by
  have h1 := hg2.size
  have h2 : (w0.alloc (.map #[] 0)).heap.size = w0.heap.size + 1 := Array.size_push ..
  omega
 have HRel : Aside0 (feed_rule_reach.Rel w (w2.alloc (.cells #[.int .i64 a1] 3)) (w.heap.size + 1) w.heap.size #[.int .i64 a0_0, .slice A0_1 l0_1.length c0_1, .slice A0_2 l0_2.length c0_2, .slice A0_3 l0_3.length c0_3] (fun _ => False) (fun _ => False) (.slice (some ⟨w2.heap.size, 0, none⟩) 1 1) [(a1, [])]) := ⟨by
  have hx : Below w.heap.size w w2 := (below_alloc HB0 (.map #[] 0)).grown hg2 (by have := below_size (below_alloc HB0 (.map #[] 0)); omega) (fun j hj => by cases hj; omega)
  refine ⟨hR2.alloc _, Kd.R_of_own (own_lit _ _ _ _ [a1] (by omega) (by simp)) (fun k hk => ⟨fun h => h, fun h => h, ?_⟩), fun j h => h.elim, ?_, below_alloc hx _, by omega, fun p hp => ?_, fun j h => h.elim⟩
  ·
   simp only [Value.ownBlock, Option.some.injEq] at hk
   omega
  ·
   refine blk_alloc ((hg2.block w.heap.size ?_ (fun e => by injection e with e; omega)).trans (blk_alloc B0 _)) _
   have h2 : (w0.alloc (.map #[] 0)).heap.size = w0.heap.size + 1 := Array.size_push ..
   omega
  ·
   rw [List.mem_singleton] at hp; subst hp; exact HW.out⟩
 rw [hw0] at hrun
 have hsz : Aside0 (w.heap.size + 2 ≤ w2.heap.size) := ⟨hs2⟩
 clear m0 s0 hR2 hg2 B0 HB0 hs2 hw0
 have ztab : Aside0 (∀ W : World, (zeroValue 26).run Tryd.prog W = .ok (.slice none 0 0) W) := ⟨fun W => by kernel_rfl⟩
 go_enter Tryd.func23, Tryd.ntmps23
 go_wp2
 clear hrun
 go_loopg [6, 7] k (fun kq v6 v7 w' => ∃ (x : Int) (q : List (Int × List Int)) (S : Nat → Prop), v7 = .int .i64 x ∧ Aside0 (0 ≤ x ∧ x ≤ q.length) ∧ Aside0 (kq ≤ k) ∧ Aside0 (feed_rule_reach.go kq a0_0 l0_1 l0_2 l0_3 x.toNat q = some r) ∧ Aside0 (feed_rule_reach.Rel w w' (w.heap.size + 1) w.heap.size #[.int .i64 a0_0, .slice A0_1 l0_1.length c0_1, .slice A0_2 l0_2.length c0_2, .slice A0_3 l0_3.length c0_3] S (fun _ => False) v6 q))
 case atStart => exact ⟨0, [(a1, [])], fun _ => False, rfl, ⟨by omega, by simp⟩, ⟨Nat.le_refl _⟩, H, HRel⟩
 case round =>
  clear HRel H
  obtain ⟨x, q, S, rfl, HI, HK, HG, HL⟩ := hrel
  obtain ⟨A6, c6, e6⟩ := Kd.R_slice HL.out.2.1
  rw [List.length_map] at e6
  subst e6
  obtain ⟨kn, hkn⟩ : ∃ kn, gk = kn + 1 := by
   cases gk with
   | zero => have := HG.out; simp [feed_rule_reach.go] at this
   | succ n => exact ⟨n, rfl⟩
  have hg := HG.out
  rw [hkn, feed_rule_reach.go] at hg
  have HKN := Aside0.mk hkn
  clear hkn HG
  by_cases hlt : x < (q.length : Int)
  ·
   have b1 : decide (x < (q.length : Int)) = true := decide_eq_true hlt
   have p1 : 0 ≤ x := HI.out.1
   have hil : x.toNat < q.length := by omega
   rw [dif_pos hil] at hg
   obtain ⟨st, hst, hg1⟩ := Option.bind_eq_some_iff.1 hg
   obtain ⟨q2, hin, hg2⟩ := Option.bind_eq_some_iff.1 hg1
   obtain ⟨p, hp⟩ : ∃ p, p = q[x.toNat] := ⟨_, rfl⟩
   rw [← hp] at hst hin
   have hpq : p ∈ q := by rw [hp]; exact List.getElem_mem _
   have erd : rd (q.map Prod.fst) x = p.1 := by rw [hp]; simp [rd, List.getD_eq_getElem?_getD, hil]
   have hxp : q[x.toNat]? = some p := by rw [hp]; exact List.getElem?_eq_getElem hil
   have HST := Aside0.mk hst
   have HIN := Aside0.mk hin
   have HG := Aside0.mk hg2
   have HPQ := Aside0.mk hpq
   obtain ⟨ad, e1, hx0⟩ := Kd.at_int (Kd.R_reads' HL.out.2.1).2.2 x p1 (by rw [List.length_map]; exact hlt)
   cases e1
   rw [erd] at hx0
   replace p1 := eq_true p1
   replace hlt := eq_true hlt
   have BK := Aside0.mk HL.out.2.2.2.1
   have k0 := blkc BK.out 0 (.int .i64 a0_0) rfl
   have k1 := blkc BK.out 1 (.slice A0_1 l0_1.length c0_1) rfl
   have k2 := blkc BK.out 2 (.slice A0_2 l0_2.length c0_2) rfl
   have k3 := blkc BK.out 3 (.slice A0_3 l0_3.length c0_3) rfl
   have f0 := blk_frozen BK.out 0
   have f1 := blk_frozen BK.out 1
   have f2 := blk_frozen BK.out 2
   have f3 := blk_frozen BK.out 3
   have HB := Aside0.mk HL.out.2.2.2.2.1
   clear hst hin hpq erd hp hg hg1 hg2 hil HPQ
   go_wp2
   have HR0 := Aside0.mk hx0
   replace HL : Aside0 (feed_rule_reach.Rel w wr.drew (w.heap.size + 1) w.heap.size #[.int .i64 a0_0, .slice A0_1 l0_1.length c0_1, .slice A0_2 l0_2.length c0_2, .slice A0_3 l0_3.length c0_3] S (fun _ => False) (.slice (some ad) q.length c6) q) := ⟨feed_rule_reach.Rel.drew HL.out⟩
   replace BK := Aside0.mk (blk_drew BK.out)
   replace HB := Aside0.mk (below_drew1 HB.out)
   refine start_ (n := 8) (S := fun w' => w'.cell? ⟨w.heap.size, 0, none⟩ = some (.int .i64 a0_0) ∧ w'.cell? ⟨w.heap.size, 1, none⟩ = some (.slice A0_1 l0_1.length c0_1) ∧ w'.cell? ⟨w.heap.size, 2, none⟩ = some (.slice A0_2 l0_2.length c0_2) ∧ w'.cell? ⟨w.heap.size, 3, none⟩ = some (.slice A0_3 l0_3.length c0_3) ∧ w'.cell? (ad.add x.toNat) = some (.int .i64 p.1)) (ds := []) #[false, false, false, false, false, false, false, false] (by kernel_rfl) rfl rfl ⟨(blk_cell BK.out 0).trans rfl, (blk_cell BK.out 1).trans rfl, (blk_cell BK.out 2).trans rfl, (blk_cell BK.out 3).trans rfl, HR0.out⟩ (fun hHeld => ?_)
   clear k0 k1 k2 k3 f0 f1 f2 f3
   have hx0 : wr.drew.cell? (ad.add x.toNat) = some (.int .i64 p.1) := HR0.out
   have HB21 := Aside0.mk HL.out.1.lt
   generalize wr.drew = w21 at HL BK HB hx0 hHeld HB21 ⊢
   refine tst5 (i := 0) (N := some 23) (bz 8 1) (by kernel_rfl) hHeld ?_
   refine pst (i := 1) (N := some 24) (bz 8 3) (by kernel_rfl) ?_
   refine pst (i := 2) (N := some 25) (bz 8 7) (by kernel_rfl) ?_
   refine pst (i := 3) (N := some 26) (bz 8 15) (by kernel_rfl) ?_
   refine tst5 (i := 4) (N := some 27) (bz 8 31) (by kernel_rfl) hHeld ?_
   refine pst (i := 7) (N := some 30) (bz 8 159) (by kernel_rfl) ?_
   refine one_ (i := 5) (N := some 28) #[true, true, true, true, true, true, false, true] rfl rfl (by kernel_rfl) (by decide) (fun K hK => ?_)
   refine goes_ Tryd.func31 (by kernel_rfl) rfl #[.agg #[.int .i64 a0_0, .slice A0_1 l0_1.length c0_1, .slice A0_2 l0_2.length c0_2, .slice A0_3 l0_3.length c0_3], .int .i64 p.1] (by rfl) rfl rfl mapz ?_
   with_reducible refine (feed_rule_steps.calls kn a0_0 _ _ l0_1 _ _ l0_2 _ _ l0_3 p.1 st _ ?side1 ?side2 ?side3 ?side4 ?side5 ?side6 ?sideT HST.out).mono ?_
   (case sideT => exact Tab.Tabs.below HT.out bel)
   (case side1 => exact cbz HR0_1)
   (case side2 => exact HC0_1.out)
   (case side3 => exact cbz HR0_2)
   (case side4 => exact HC0_2.out)
   (case side5 => exact cbz HR0_3)
   (case side6 => exact HC0_3.out)
   rintro e w1 ⟨v28, rfl, ho, hb⟩
   refine ⟨_, rfl, ?_⟩
   obtain ⟨A28, c28, e28⟩ := Kd.R_slice ho
   subst e28
   have HL1 := Aside0.mk (feed_rule_reach.Rel.zone HL.out hb)
   have HO := Aside0.mk (Kd.R_lower (feed_rule_reach.R_ok ho (ok' := fun j => w21.heap.size ≤ j ∧ j < w1.heap.size) (fun j _ _ h1 h2 => ⟨h1, h2⟩)) (below_size HB.out))
   have BK1 := Aside0.mk HL1.out.2.2.2.1
   replace hx0 := (hb.cell (World.block_lt_of_cell? _ _ hx0)).trans hx0
   refine hK.out _ _ ⟨(blk_cell BK1.out 0).trans rfl, (blk_cell BK1.out 1).trans rfl, (blk_cell BK1.out 2).trans rfl, (blk_cell BK1.out 3).trans rfl, hx0⟩ (fun hHeld2 => ?_)
   clear hK K
   refine norm_ (a' := ?_) ?_ ?_
   rotate_left
   ·
    show Act.put _ (some 28) _ = _
    simp only [Act.put, List.setIfInBounds_toArray, List.set_cons_zero, List.set_cons_succ, i64_w, i32_w]
    rfl
   refine pst (i := 6) (N := some 29) (bz 8 255) (by kernel_rfl) ?_
   refine done_ (by kernel_rfl) ?_
   clear hHeld hHeld2 hx0 HL BK HB BK1 ho hb HR0 HST
   go_wp2
   have HX1 := Aside0.mk hxp
   clear hxp
   go_loopg [6, 30] st.length (fun kq v6 v30 w' => ∃ (y : Int) (q' : List (Int × List Int)) (S' : Nat → Prop), v30 = .int .i64 y ∧ Aside0 (0 ≤ y ∧ y ≤ st.length) ∧ Aside0 (kq = st.length - y.toNat) ∧ Aside0 (feed_rule_reach.inner (st.drop y.toNat) y p.2 q' = some q2) ∧ Aside0 (q'[x.toNat]? = some p) ∧ Aside0 (feed_rule_reach.Rel w w' (w.heap.size + 1) w.heap.size #[.int .i64 a0_0, .slice A0_1 l0_1.length c0_1, .slice A0_2 l0_2.length c0_2, .slice A0_3 l0_3.length c0_3] S' (fun j => w21.heap.size ≤ j ∧ j < w1.heap.size) v6 q') ∧ Aside0 ((Kd.int .i64).R 3 w' w.heap.size (fun j => w21.heap.size ≤ j ∧ j < w1.heap.size) (.slice A28 st.length c28) st))
   case atStart => exact ⟨0, q, S, rfl, ⟨by omega, by omega⟩, ⟨rfl⟩, HIN, HX1, HL1, HO⟩
   case round =>
    clear HIN HX1 HL1 HO
    obtain ⟨y, q', S', rfl, HI2, HK2, HIN, HX, HL, HO⟩ := hrel
    obtain ⟨A6', c6', e6⟩ := Kd.R_slice HL.out.2.1
    rw [List.length_map] at e6
    subst e6
    by_cases hlt : y < (st.length : Int)
    ·
     have b1 : decide (y < (st.length : Int)) = true := decide_eq_true hlt
     have p1 : 0 ≤ y := HI2.out.1
     have hyl : y.toNat < st.length := by omega
     obtain ⟨nx, hnx⟩ : ∃ nx, nx = rd st y := ⟨_, rfl⟩
     have hd : st.drop y.toNat = nx :: st.drop (y.toNat + 1) := by
      rw [hnx, show rd st y = st[y.toNat] by simp [rd, List.getD_eq_getElem?_getD, hyl]]; exact List.drop_eq_getElem_cons hyl
     obtain ⟨ad2, e1, hy0⟩ := Kd.at_int (Kd.R_reads' HO.out).2.2 y p1 hlt
     cases e1
     rw [← hnx] at hy0
     have hin := HIN.out
     rw [hd, feed_rule_reach.inner] at hin
     have hyw : wrap64 (y + 1) = y + 1 := by unfold wrap64; have := (Kd.R_reads' HO.out).2.2.2.1; omega
     have hyn : (y + 1).toNat = y.toNat + 1 := by omega
     by_cases hc : ¬ (feed_rule_reach.wf nx ∧ q'.length < 1000000 ∧ p.2.length < 1000000)
     ·
      rw [if_neg hc] at hin; cases hin
     replace hc := Decidable.not_not.1 hc
     rw [if_pos hc] at hin
     obtain ⟨v0, hrun, _, _⟩ := HL.out.1.look_ok Tryd.underlying59 Tryd.underlying3 (ztab.out wr) (feed_rule_reach.wf_lit hc.1)
     have HYW := Aside0.mk hyw
     have HYN := Aside0.mk hyn
     have HC := Aside0.mk hc
     replace p1 := eq_true p1
     replace hlt := eq_true hlt
     by_cases hn0 : 0 ≤ nx
     ·
      have b2 : decide (nx ≥ 0) = true := decide_eq_true hn0
      cases hk : hasKey q' nx with
      | true =>
       rw [if_neg (by simp [hk])] at hin
       rw [hk] at hrun
       have HN := Aside0.mk hin
       clear hin hd hnx hyl hc hn0 hk hyw hyn HIN
       go_wp2
       go_roundg (st.length - (y + 1).toNat)
       case measure => have := HI2.out; have := HK2.out; have := of_eq_true hlt; omega
       case rel => exact ⟨y + 1, q', S', by first | rfl | rw [HYW.out], ⟨by have := HI2.out; omega, by have := of_eq_true hlt; omega⟩, ⟨rfl⟩, ⟨by rw [HYN.out]; exact HN.out⟩, HX, HL, HO⟩
      | false =>
       rw [if_pos ⟨hn0, hk⟩] at hin
       rw [hk] at hrun
       have HN := Aside0.mk hin
       have HK1 := Aside0.mk hk
       have HW2 := Aside0.mk HL.out.2.2.2.2.2.2.1
       obtain ⟨hxl, hxe⟩ := List.getElem?_eq_some_iff.1 HX.out
       have hpm : p ∈ q' := hxe ▸ List.getElem_mem _
       have hx0 : 0 ≤ x := HI.out.1
       have hxq : x < ((q'.length : Nat) : Int) := by omega
       have erd : rd (q'.map Prod.fst) x = p.1 := by simp [rd, List.getD_eq_getElem?_getD, HX.out]
       obtain ⟨adq, eq1, hq0⟩ := Kd.at_int (Kd.R_reads' HL.out.2.1).2.2 x hx0 (by rw [List.length_map]; exact hxq)
       cases eq1
       rw [erd] at hq0
       obtain ⟨u0, hrun2, hfound⟩ := HL.out.1.look (s := p.1) Tryd.underlying59 Tryd.underlying3 (ztab.out wr) (feed_rule_reach.wf_lit (HW2.out p hpm))
       have HU := Aside0.mk (hfound p.2 hpm)
       obtain ⟨Au, cu, eu⟩ := Kd.R_slice HU.out
       subst eu
       have hnb : ¬ (w21.heap.size ≤ w.heap.size + 1 ∧ w.heap.size + 1 < w1.heap.size) := fun e => by have := HB21.out; omega
       have HNB := Aside0.mk hnb
       have hcl : p.2.length * 8 ≤ 140737488351232 := by have := hc.2.2; omega
       have hcf : slices_Clone_int_int.f p.2 = some p.2 := by unfold slices_Clone_int_int.f; rw [if_pos hcl]
       have HCF := Aside0.mk hcf
       replace hx0 := eq_true hx0
       replace hxq := eq_true hxq
       clear hin hd hnx hyl hc hn0 hk hyw hyn HIN hxl hxe hpm erd hfound hnb hcl hcf
       go_wp2_with (first | ((with_reducible refine gate_callee (f := 45) rfl ?_); refine goesL_ (some 55) rfl rfl Tryd.func45 (by kernel_rfl) rfl #[.slice Au p.2.length cu] rfl mapz ?_; (refine (slices_Clone_int_int.calls Au cu p.2 p.2 _ (Kd.R_reads' HU.out).2.2 (Kd.R_reads' HU.out).2.1 HCF.out).mono ?_); rintro e w3 ⟨v55, rfl, ho, hb⟩; refine ⟨_, rfl, ?_⟩; have HO3 := Aside0.mk ho; have HB3 := Aside0.mk hb; clear ho hb) | ((with_reducible refine gate_builtin (b := .append) (xs := #[.tmp 55, .tmp 57]) rfl ?_); at_builtin; refine Kd.R_append (Kd.int .i64) (w0 := wr) wr.heap.size rfl (.tmp 55) (.tmp 57) 26 3 (.int .i64 0) 8 rfl Tryd.underlying26 info3 rfl (by decide) (by omega) v55 p.2 y [.int .i64 y] (fun _ => True) (fun _ => False) rfl rfl ?aP (fun _ hk => hk.elim) ?aF ?aO ?aB ?aS ?aL ?_; (case aP => exact rfl); (case aB => exact HB3.out); (case aF => exact (fun _ _ => trivial)); (case aO => exact HO3.out); (case aS => exact (below_size HB3.out)); (case aL => have := HC.out.2.2; omega); intro v58 w4 ho hb hg hat; have HO4 := Aside0.mk ho; have HB4 := Aside0.mk hb; clear ho hb hg hat HO3 HB3) | (at_mapUpdate; refine rmap_store rfl (.tmp 47) (.tmp 48) (.tmp 58) (.inl rfl) rfl nx rfl v58 rfl (HL.out.1.below HB4.out) Tryd.underlying59 Tryd.underlying3 (by have := HC.out.2.1; unfold maxLen; omega) (feed_rule_reach.wf_lit HC.out.1) (fun p hp => feed_rule_reach.wf_lit (HW2.out p hp)) HK1.out (p.2 ++ [y]) (S' := fun j => S' j ∨ v58.ownBlock = some j) ?hr (fun k hk => .inl hk) ?hsb ?_; (case hr => exact Kd.R_lower (feed_rule_reach.R_ok HO4.out (fun j hj _ _ _ => .inr hj)) (below_size HL.out.2.2.2.2.1)); (case hsb => exact (fun e => e.elim (fun e => (HL.out.2.2.1 _ e).2.1 rfl) (fun e => by have h1 := HL.out.1.lt; obtain ⟨_, _, ho, _⟩ := HO4.out; have h2 := own_base ho _ e; omega))); intro w5 hm hg; have HM5 := Aside0.mk hm; have HG5 := Aside0.mk hg; have HP5 := Aside0.mk (feed_rule_reach.Rel.put HL.out HB4.out HO4.out hm hg HC.out.1); clear hm hg) | ((with_reducible refine gate_builtin (b := .append) (xs := #[.tmp 59, .tmp 61]) rfl ?_); at_builtin; refine Kd.R_append (Kd.int .i64) (w0 := w) w.heap.size rfl (.tmp 59) (.tmp 61) 26 3 (.int .i64 0) 8 rfl Tryd.underlying26 info3 rfl (by decide) (by omega) _ (q'.map Prod.fst) nx [.int .i64 nx] (fun j => ¬ (S' j ∨ v58.ownBlock = some j) ∧ ¬ (w21.heap.size ≤ j ∧ j < w1.heap.size) ∧ j ≠ w.heap.size + 1) (fun _ => False) rfl rfl ?aP (fun _ hk => hk.elim) ?aF ?aO ?aB ?aS ?aL ?_; (case aP => exact rfl); (case aB => exact HP5.out.2.1); (case aF => exact HP5.out.2.2.2.1); (case aO => exact HP5.out.1); (case aS => exact HP5.out.2.2.1); (case aL => have := HC.out.2.1; rw [List.length_map]; omega); intro v62 w6 ho hb hg hat; have HL6 := Aside0.mk (feed_rule_reach.Rel.fin HM5.out HP5.out.1 hg ho hb HP5.out.2.2.2.2.2.1 HP5.out.2.2.2.2.2.2 HP5.out.2.2.2.2.1 HL.out.2.2.2.2.2.1 HW2.out HC.out.1); have HO6 := Aside0.mk (Kd.R_grown (Kd.R_grown (Kd.R_below HO.out HB4.out) HG5.out (fun k hk e => HNB.out (by injection e with e; subst e; exact hk))) hg (fun k hk e => (HP5.out.1.1 k e.symm).2.1 hk)); clear ho hb hg hat))
       go_roundg (st.length - (y + 1).toNat)
       case measure => have := HI2.out; have := HK2.out; have := of_eq_true hlt; omega
       case rel => exact ⟨y + 1, q' ++ [(nx, p.2 ++ [y])], _, by first | rfl | rw [HYW.out], ⟨by have := HI2.out; omega, by have := of_eq_true hlt; omega⟩, ⟨rfl⟩, ⟨by rw [HYN.out]; exact HN.out⟩, ⟨by rw [List.getElem?_append_left (List.getElem?_eq_some_iff.1 HX.out).1]; exact HX.out⟩, HL6, HO6⟩
     ·
      have b2 : decide (nx ≥ 0) = false := decide_eq_false hn0
      rw [if_neg (fun h => hn0 h.1)] at hin
      have HN := Aside0.mk hin
      clear hin hd hnx hyl hc hn0 hyw hyn HIN
      go_wp2
      go_roundg (st.length - (y + 1).toNat)
      case measure => have := HI2.out; have := HK2.out; have := of_eq_true hlt; omega
      case rel => exact ⟨y + 1, q', S', by first | rfl | rw [HYW.out], ⟨by have := HI2.out; omega, by have := of_eq_true hlt; omega⟩, ⟨rfl⟩, ⟨by rw [HYN.out]; exact HN.out⟩, HX, HL, HO⟩
    ·
     have b1 : decide (y < (st.length : Int)) = false := decide_eq_false hlt
     have hin := HIN.out
     rw [List.drop_eq_nil_of_le (by have := HI2.out; omega), feed_rule_reach.inner] at hin
     obtain rfl := Option.some.inj hin
     have hxw : wrap64 (x + 1) = x + 1 := by
      unfold wrap64
      have h1 := (Kd.R_reads' HL.out.2.1).2.2.2.1
      rw [List.length_map] at h1
      have h2 := (List.getElem?_eq_some_iff.1 HX.out).1
      have := HI.out
      omega
     have hxl := (List.getElem?_eq_some_iff.1 HX.out).1
     have HXL := Aside0.mk hxl
     have HXW := Aside0.mk hxw
     clear hin hlt HIN HI2 HK2 HX hxw hxl
     go_wp2
     go_roundg kn
     case measure => have := HKN.out; omega
     case rel => exact ⟨x + 1, q', S', by first | rfl | rw [HXW.out], ⟨by have := HI.out; omega, by have := HXL.out; have := HI.out; omega⟩, ⟨by have := HK.out; have := HKN.out; omega⟩, ⟨by rw [show (x + 1).toNat = x.toNat + 1 by have := HI.out; omega]; exact HG.out⟩, ⟨feed_rule_reach.Rel.unzone HL.out⟩⟩
  ·
   have b1 : decide (x < (q.length : Int)) = false := decide_eq_false hlt
   rw [dif_neg (by have := HI.out; omega)] at hg
   obtain rfl := Option.some.inj hg
   have hx := HL.out
   clear hg HI hlt HKN HL
   go_wp2
   go_ret
   exact ⟨_, _, rfl, hx.1, hx.2.2.2.2.2.2.1, hx.2.2.2.2.1⟩

/-! ### slices_Sort_int_int: function 24 -/
theorem slices_Sort_int_int.reps_ints {w : World} {base : Nat} {ok : Nat → Prop} {xs : List Int} {cs : List Value} (h : Reps ((Kd.int .i64).M w base ok) 1 xs cs) : cs = xs.map (Value.int .i64) := by
 obtain ⟨h1, h2⟩ := h
 apply List.ext_getElem?
 intro j
 by_cases hj : j < xs.length
 ·
  have h3 := h2 j xs[j] (by simp [hj])
  have h4 : (cs.drop (j * 1)).take 1 = [.int .i64 xs[j]] := h3
  have h5 : ((cs.drop (j * 1)).take 1)[0]? = some (.int .i64 xs[j]) := by rw [h4]; rfl
  rw [List.getElem?_take_of_lt (by omega), List.getElem?_drop] at h5
  simp only [Nat.mul_one, Nat.add_zero] at h5
  rw [h5]; simp [hj]
 ·
  rw [List.getElem?_eq_none (by omega), List.getElem?_eq_none (by simp; omega)]

def slices_Sort_int_int.f (l0 : List Int) : Option (List Int) := if l0 = [] ∨ 4611686018427387904 ≤ l0.length then none else some (l0.mergeSort fun x y => decide (x ≤ y))
theorem slices_Sort_int_int.calls (P0_ : Nat → Prop) (u9000_ : Value) (l0 : List Int) (r : List Int) (w0 w : World) (hB : Below w0.heap.size w0 w) (ho0 : Kd.R (Kd.int .i64) 3 w w0.heap.size P0_ u9000_ l0) (h : slices_Sort_int_int.f l0 = some r) :
  Calls Tryd.prog 24 #[u9000_] w fun e w' => e = .returned (.tuple #[]) ∧ Kd.R (Kd.int .i64) 3 w' w0.heap.size (fun k_ => (P0_ k_ ∨ w.heap.size ≤ k_)) u9000_ r ∧ Below w0.heap.size w0 w' ∧ Kept w w' (fun k_ => P0_ k_) := by
 unfold slices_Sort_int_int.f at h
 by_cases hn : l0 = [] ∨ 4611686018427387904 ≤ l0.length
 ·
  rw [if_pos hn] at h; cases h
 rw [if_neg hn] at h
 obtain rfl := Option.some.inj h
 obtain ⟨hok, inner, ho, hr⟩ := ho0
 obtain rfl := slices_Sort_int_int.reps_ints hr
 rcases ho.2 with ⟨_, h0⟩ | ⟨g, cap, cur, rfl, hg, hh, hnc, hcm, hcs, ht⟩
 ·
  exact absurd (List.length_eq_zero_iff.1 h0) (fun hx => hn (.inl hx))
 have hb : g < w.heap.size := (Array.getElem?_eq_some_iff.1 hh).1
 have hcs' : cur.size = cap * 1 := hcs
 have ht' : cur.toList.take l0.length = l0.map (Value.int .i64) := by have h1 := ht; simp only [show (Kd.int IntKind.i64).sz = 1 from rfl, Nat.mul_one] at h1; exact h1
 refine (Tryd.slices_Sort_int g 0 cap l0 w (holds_of_blockI hh ht') hb (by omega)).mono ?_
 rintro e w' ⟨rfl, n, os, rfl⟩
 have hP : P0_ g := hok g (by simp [Value.ownBlock])
 have hsz : (l0.mergeSort fun x y => decide (x ≤ y)).length = l0.length := List.length_mergeSort _
 have hgr := grownBy_sortedI (w := w) (g := g) (n := n) (os := os) (l0.mergeSort fun x y => decide (x ≤ y)).toArray
 have hown := ownsRow_sortedI (w := w) (base := w0.heap.size) (n := n) (os := os) hsz hg hh hnc hcm hcs'
 refine ⟨rfl, ?_, ?_, ?_⟩
 ·
  refine Kd.R_of_own (enc := Value.int .i64) (h1 := fun _ => rfl) ?_ ?_
  ·
   rw [hsz]; exact hown
  ·
   intro k hk
   simp [Value.ownBlock] at hk
   subst hk
   exact .inl hP
 ·
  exact pw_below_grown hB (some g) hB.size hgr (fun k hk => by cases hk; exact hg)
 ·
  exact Kept.of_grown hgr (Kept.refl _ _) (fun k hk => by cases hk; exact .inl hP)

end Go.Proofs.YtldifdmfefpglaaDoor.XFeed