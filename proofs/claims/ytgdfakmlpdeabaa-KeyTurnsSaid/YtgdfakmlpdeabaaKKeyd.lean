-- Written by wip/pack.py of this repo: texts of this claim, put together.
import Derived.Test.YtgdfakmlpdeabaaKKeyc
namespace Go.Proofs.Ytgdfakmlpdeabaa.XKey
open Go.RowKit Go.Proofs.YtgdfakmlpdeabaaW.PrintWords Go.Proofs.YtgdfakmlpdeabaaW.PrintLast Go.Proofs.YtgdfakmlpdeabaaW.PrintMore
attribute [local go_sem] max2_int min2_int max_two min_two max_three min_three max_four min_four   -- for this text's walks alone
set_option linter.unusedVariables false
set_option linter.unusedSimpArgs false
/-! ### dropperlaw06_Large: function 29 -/
mutual
def dropperlaw06_Large.l0 : Nat → List (List Int) → Int → Int → List (S64) → Option (Bool)
 | 0, _, _, _, _ => none
 | k + 1, x1, x5, x218000, x218001 => if x5 < (x218001.length : Int) then (if 0 ≤ x5 then (if (((rd_T64 x218001 x5).f0).length : Int) > 20 then (some true) else (if (((rd_T64 x218001 x5).f1).length : Int) > 20 then (some true) else (dropperlaw06_Large.l0 k x1 (wrap64 (x5 + 1)) x218000 x218001))) else (none)) else (dropperlaw06_Large.l1 k x1 0 x218000 x218001)
def dropperlaw06_Large.l1 : Nat → List (List Int) → Int → Int → List (S64) → Option (Bool)
 | 0, _, _, _, _ => none
 | k + 1, x1, x6, x218000, x218001 => if x6 < (x1.length : Int) then (if 0 ≤ x6 then (if ((rd_L1 x1 x6).length : Int) > 20 then (some true) else (dropperlaw06_Large.l1 k x1 (wrap64 (x6 + 1)) x218000 x218001)) else (none)) else (some (decide ((x218001.length : Int) > 20)))
end
def dropperlaw06_Large.f (k : Nat) (a0_0 : Int) (l0_1 : List (S64)) (l1 : List (List Int)) : Option (Bool) := dropperlaw06_Large.l0 k l1 0 a0_0 l0_1
set_option maxHeartbeats 8000000 in
set_option maxRecDepth 100000 in
theorem dropperlaw06_Large.calls (k : Nat) (a0_0 : Int) (A0_1 : Option Addr) (c0_1 : Nat) (l0_1 : List (S64)) (A1 : Option Addr) (c1 : Nat) (l1 : List (List Int)) (r : Bool) (w : World) (hr0_1 : Kd.C k64 w A0_1 l0_1.length l0_1) (hc0_1 : l0_1.length ≤ c0_1) (hr1 : Kd.C (Kd.slice 3 (Kd.int .i64)) w A1 l1.length l1) (hc1 : l1.length ≤ c1) (h : dropperlaw06_Large.f k a0_0 l0_1 l1 = some r) :
  Calls Try.prog 29 #[.agg #[.int .i64 a0_0, .slice A0_1 l0_1.length c0_1], .slice A1 l1.length c1] w fun e w' => e = .returned (.bool r) ∧ Below w.heap.size w w' := by
 have hu24 := Try.underlying24
 have HR0_1 := Aside0.mk hr0_1
 have HC0_1 := Aside0.mk hc0_1
 clear hr0_1 hc0_1
 have HR1 := Aside0.mk hr1
 have HC1 := Aside0.mk hc1
 clear hr1 hc1
 have HB := Aside0.mk (Below.refl w.heap.size w)
 have H : (dropperlaw06_Large.l0 k l1 0 a0_0 l0_1) = some r := h
 clear h
 have H' := Aside0.mk H
 clear H
 go_enter Try.func29, Try.ntmps29
 go_wp2_with (first | ((with_reducible refine gate_dst (N := 2) rfl ?_); (try (refine gate_guard (by rfl) ?_; dsimp only)); refine box_event ?hg (N := 2) ?hd (cs := #[.int .i64 a0_0, .slice A0_1 l0_1.length c0_1]) (t := 24) ?hr ?_; (case hd => rfl); (case hg => rfl); (case hr => first | (go_simp; done) | (go_simp; rfl)); intro gb217 hg w3 hbox hb; have BK217 := Aside0.mk (hbox); have GW217 := bsz (w := w) hg; have GE217 := GW217; replace HB := Aside0.mk (below_step bel hb); clear hb hbox hg))
 go_loopg [5] k (fun kq v5 w' => ∃ (x5_1 : Int), v5 = .int .i64 x5_1 ∧ Aside0 (dropperlaw06_Large.l0 kq l1 x5_1 a0_0 l0_1 = some r) ∧ Aside0 (kq ≤ k) ∧ Aside0 (w'.heap[gb217]? = some (.cells #[.int .i64 a0_0, (.slice A0_1 l0_1.length c0_1)] 24 (0, 0))) ∧ Aside0 (Below w.heap.size w w'))
 case atStart => exact ⟨(0), rsz, H', ⟨Nat.le_refl _⟩, ⟨blkz⟩, ⟨bel⟩⟩
 case round =>
  clear H'
  (try clear c1); (try clear c2); (try clear p2)
  obtain ⟨x5_1, rfl, HA, HK1, BK217, HB⟩ := hrel
  cases gk with
  | zero => exact absurd HA.out (by simp [dropperlaw06_Large.l0])
  | succ k1 =>
   have H := HA.out
   clear HA
   simp only [dropperlaw06_Large.l0] at H
   by_cases c4 : x5_1 < (l0_1.length : Int)
   ·
    rw [if_pos c4] at H
    have c4b0 : decide (x5_1 < (l0_1.length : Int)) = true := decide_eq_true c4
    clear c4
    by_cases c5 : 0 ≤ x5_1
    ·
     rw [if_pos c5] at H
     have c5b0 : decide (0 ≤ x5_1) = true := decide_eq_true c5
     clear c5
     by_cases c6 : (((rd_T64 l0_1 x5_1).f0).length : Int) > 20
     ·
      rw [if_pos c6] at H
      have c6b0 : decide (20 < (((rd_T64 l0_1 x5_1).f0).length : Int)) = true := decide_eq_true c6
      have c6b1 : decide (20 < ((rd_T64 l0_1 x5_1).f0).length) = true := decide_eq_true (by omega)
      clear c6
      obtain rfl := Option.some.inj H
      obtain ⟨hcz7_0, hcz7_1⟩ := bc2 BK217.out
      obtain ⟨hfz7_0, hfz7_1⟩ := bf2 BK217.out
      have p218 : 0 ≤ (x5_1 : Int) := of_decide_eq_true asz
      have q218 : x5_1 < (l0_1.length : Int) := of_decide_eq_true asz
      obtain ⟨ad218, A218_0, c218_0, A218_1, c218_1, e218, hx218_0, hx218_1, hl218_0, hi218_0, hl218_1, hi218_1⟩ := at_T64 HR0_1.out x5_1 p218 q218
      cases e218
      replace hx218_0 := (HB.out.cell (World.block_lt_of_cell? w _ hx218_0)).trans hx218_0
      replace hx218_1 := (HB.out.cell (World.block_lt_of_cell? w _ hx218_1)).trans hx218_1
      have HR218_0 := Aside0.mk hi218_0
      have HC218_0 := Aside0.mk hl218_0
      clear hi218_0 hl218_0
      have HR218_1 := Aside0.mk hi218_1
      have HC218_1 := Aside0.mk hl218_1
      clear hi218_1 hl218_1
      replace p218 := eq_true p218
      replace q218 := eq_true q218
      go_wp2
      go_ret
      exact ⟨ezz, bel⟩
     ·
      rw [if_neg c6] at H
      have c6b0 : decide (20 < (((rd_T64 l0_1 x5_1).f0).length : Int)) = false := decide_eq_false c6
      have c6b1 : decide (20 < ((rd_T64 l0_1 x5_1).f0).length) = false := decide_eq_false (by omega)
      clear c6
      by_cases c8 : (((rd_T64 l0_1 x5_1).f1).length : Int) > 20
      ·
       rw [if_pos c8] at H
       have c8b0 : decide (20 < (((rd_T64 l0_1 x5_1).f1).length : Int)) = true := decide_eq_true c8
       have c8b1 : decide (20 < ((rd_T64 l0_1 x5_1).f1).length) = true := decide_eq_true (by omega)
       clear c8
       obtain rfl := Option.some.inj H
       obtain ⟨hcz9_0, hcz9_1⟩ := bc2 BK217.out
       obtain ⟨hfz9_0, hfz9_1⟩ := bf2 BK217.out
       have p218 : 0 ≤ (x5_1 : Int) := of_decide_eq_true asz
       have q218 : x5_1 < (l0_1.length : Int) := of_decide_eq_true asz
       obtain ⟨ad218, A218_0, c218_0, A218_1, c218_1, e218, hx218_0, hx218_1, hl218_0, hi218_0, hl218_1, hi218_1⟩ := at_T64 HR0_1.out x5_1 p218 q218
       cases e218
       replace hx218_0 := (HB.out.cell (World.block_lt_of_cell? w _ hx218_0)).trans hx218_0
       replace hx218_1 := (HB.out.cell (World.block_lt_of_cell? w _ hx218_1)).trans hx218_1
       have HR218_0 := Aside0.mk hi218_0
       have HC218_0 := Aside0.mk hl218_0
       clear hi218_0 hl218_0
       have HR218_1 := Aside0.mk hi218_1
       have HC218_1 := Aside0.mk hl218_1
       clear hi218_1 hl218_1
       replace p218 := eq_true p218
       replace q218 := eq_true q218
       have p219 : 0 ≤ (x5_1 : Int) := of_decide_eq_true asz
       have q219 : x5_1 < (l0_1.length : Int) := of_decide_eq_true asz
       obtain ⟨ad219, A219_0, c219_0, A219_1, c219_1, e219, hx219_0, hx219_1, hl219_0, hi219_0, hl219_1, hi219_1⟩ := at_T64 HR0_1.out x5_1 p219 q219
       obtain rfl : ad218 = ad219 := (by injection e219)
       replace hx219_0 := (HB.out.cell (World.block_lt_of_cell? w _ hx219_0)).trans hx219_0
       replace hx219_1 := (HB.out.cell (World.block_lt_of_cell? w _ hx219_1)).trans hx219_1
       have HR219_0 := Aside0.mk hi219_0
       have HC219_0 := Aside0.mk hl219_0
       clear hi219_0 hl219_0
       have HR219_1 := Aside0.mk hi219_1
       have HC219_1 := Aside0.mk hl219_1
       clear hi219_1 hl219_1
       replace p219 := eq_true p219
       replace q219 := eq_true q219
       have ea_ := Option.some.inj (hx218_0.symm.trans hx219_0)
       injection ea_ with ea_ en_ ec_
       subst ea_
       subst ec_
       clear en_
       have ea_ := Option.some.inj (hx218_1.symm.trans hx219_1)
       injection ea_ with ea_ en_ ec_
       subst ea_
       subst ec_
       clear en_
       go_wp2
       go_ret
       exact ⟨ezz, bel⟩
      ·
       rw [if_neg c8] at H
       have c8b0 : decide (20 < (((rd_T64 l0_1 x5_1).f1).length : Int)) = false := decide_eq_false c8
       have c8b1 : decide (20 < ((rd_T64 l0_1 x5_1).f1).length) = false := decide_eq_false (by omega)
       clear c8
       have H' := Aside0.mk H
       clear H
       obtain ⟨hcz10_0, hcz10_1⟩ := bc2 BK217.out
       obtain ⟨hfz10_0, hfz10_1⟩ := bf2 BK217.out
       have p218 : 0 ≤ (x5_1 : Int) := of_decide_eq_true asz
       have q218 : x5_1 < (l0_1.length : Int) := of_decide_eq_true asz
       obtain ⟨ad218, A218_0, c218_0, A218_1, c218_1, e218, hx218_0, hx218_1, hl218_0, hi218_0, hl218_1, hi218_1⟩ := at_T64 HR0_1.out x5_1 p218 q218
       cases e218
       replace hx218_0 := (HB.out.cell (World.block_lt_of_cell? w _ hx218_0)).trans hx218_0
       replace hx218_1 := (HB.out.cell (World.block_lt_of_cell? w _ hx218_1)).trans hx218_1
       have HR218_0 := Aside0.mk hi218_0
       have HC218_0 := Aside0.mk hl218_0
       clear hi218_0 hl218_0
       have HR218_1 := Aside0.mk hi218_1
       have HC218_1 := Aside0.mk hl218_1
       clear hi218_1 hl218_1
       replace p218 := eq_true p218
       replace q218 := eq_true q218
       have p219 : 0 ≤ (x5_1 : Int) := of_decide_eq_true asz
       have q219 : x5_1 < (l0_1.length : Int) := of_decide_eq_true asz
       obtain ⟨ad219, A219_0, c219_0, A219_1, c219_1, e219, hx219_0, hx219_1, hl219_0, hi219_0, hl219_1, hi219_1⟩ := at_T64 HR0_1.out x5_1 p219 q219
       obtain rfl : ad218 = ad219 := (by injection e219)
       replace hx219_0 := (HB.out.cell (World.block_lt_of_cell? w _ hx219_0)).trans hx219_0
       replace hx219_1 := (HB.out.cell (World.block_lt_of_cell? w _ hx219_1)).trans hx219_1
       have HR219_0 := Aside0.mk hi219_0
       have HC219_0 := Aside0.mk hl219_0
       clear hi219_0 hl219_0
       have HR219_1 := Aside0.mk hi219_1
       have HC219_1 := Aside0.mk hl219_1
       clear hi219_1 hl219_1
       replace p219 := eq_true p219
       replace q219 := eq_true q219
       have ea_ := Option.some.inj (hx218_0.symm.trans hx219_0)
       injection ea_ with ea_ en_ ec_
       subst ea_
       subst ec_
       clear en_
       have ea_ := Option.some.inj (hx218_1.symm.trans hx219_1)
       injection ea_ with ea_ en_ ec_
       subst ea_
       subst ec_
       clear en_
       go_wp2
       go_roundg k1
       case measure => have := HK1.out; omega
       case rel => exact ⟨(wrap64 (x5_1 + 1)), rsz, H', ⟨by have := HK1.out; omega⟩, ⟨blkz⟩, ⟨bel⟩⟩
    ·
     rw [if_neg c5] at H
     exact absurd H (by simp)
   ·
    rw [if_neg c4] at H
    have c4b0 : decide (x5_1 < (l0_1.length : Int)) = false := decide_eq_false c4
    clear c4
    have H' := Aside0.mk H
    clear H
    obtain ⟨hcz11_0, hcz11_1⟩ := bc2 BK217.out
    obtain ⟨hfz11_0, hfz11_1⟩ := bf2 BK217.out
    go_wp2
    go_loopg [6] k1 (fun kq v6 w' => ∃ (x6_2 : Int), v6 = .int .i64 x6_2 ∧ Aside0 (dropperlaw06_Large.l1 kq l1 x6_2 a0_0 l0_1 = some r) ∧ Aside0 (kq ≤ k1) ∧ Aside0 (w'.heap[gb217]? = some (.cells #[.int .i64 a0_0, (.slice A0_1 l0_1.length c0_1)] 24 (0, 0))) ∧ Aside0 (Below w.heap.size w w'))
    case atStart => exact ⟨(0), rsz, H', ⟨Nat.le_refl _⟩, ⟨blkz⟩, ⟨bel⟩⟩
    case round =>
     clear H'
     (try clear c1); (try clear c2); (try clear p2); (try clear q2); (try clear hx2); (try clear c4); (try clear c4b0); (try clear c5); (try clear c5b0); (try clear c6); (try clear c6b0); (try clear c6b1); (try clear p6); (try clear c8); (try clear c8b0); (try clear c8b1); (try clear hcz10_0); (try clear hcz10_1); (try clear hcz11_0); (try clear hcz11_1); (try clear hcz7_0); (try clear hcz7_1); (try clear hcz9_0); (try clear hcz9_1); (try clear hfz10_0); (try clear hfz10_1); (try clear hfz11_0); (try clear hfz11_1); (try clear hfz7_0); (try clear hfz7_1); (try clear hfz9_0); (try clear hfz9_1); (try clear hx218_0); (try clear hx218_1); (try clear hx219_0); (try clear hx219_1); (try clear p2); (try clear p218); (try clear p219); (try clear q218); (try clear q219)
     obtain ⟨x6_2, rfl, HA, HK2, BK217, HB⟩ := hrel
     cases gk with
     | zero => exact absurd HA.out (by simp [dropperlaw06_Large.l1])
     | succ k2 =>
      have H := HA.out
      clear HA
      simp only [dropperlaw06_Large.l1] at H
      by_cases c12 : x6_2 < (l1.length : Int)
      ·
       rw [if_pos c12] at H
       have c12b0 : decide (x6_2 < (l1.length : Int)) = true := decide_eq_true c12
       clear c12
       by_cases c13 : 0 ≤ x6_2
       ·
        rw [if_pos c13] at H
        have c13b0 : decide (0 ≤ x6_2) = true := decide_eq_true c13
        clear c13
        by_cases c14 : ((rd_L1 l1 x6_2).length : Int) > 20
        ·
         rw [if_pos c14] at H
         have c14b0 : decide (20 < ((rd_L1 l1 x6_2).length : Int)) = true := decide_eq_true c14
         have c14b1 : decide (20 < (rd_L1 l1 x6_2).length) = true := decide_eq_true (by omega)
         clear c14
         obtain rfl := Option.some.inj H
         have p220 : 0 ≤ (x6_2 : Int) := of_decide_eq_true asz
         have q220 : x6_2 < (l1.length : Int) := of_decide_eq_true asz
         obtain ⟨ad220, A220_0, c220_0, e220, hx220_0, hl220_0, hi220_0⟩ := at_L1 HR1.out x6_2 p220 q220
         cases e220
         replace hx220_0 := (HB.out.cell (World.block_lt_of_cell? w _ hx220_0)).trans hx220_0
         have HR220_0 := Aside0.mk hi220_0
         have HC220_0 := Aside0.mk hl220_0
         clear hi220_0 hl220_0
         replace p220 := eq_true p220
         replace q220 := eq_true q220
         go_wp2
         go_ret
         exact ⟨ezz, bel⟩
        ·
         rw [if_neg c14] at H
         have c14b0 : decide (20 < ((rd_L1 l1 x6_2).length : Int)) = false := decide_eq_false c14
         have c14b1 : decide (20 < (rd_L1 l1 x6_2).length) = false := decide_eq_false (by omega)
         clear c14
         have H' := Aside0.mk H
         clear H
         have p220 : 0 ≤ (x6_2 : Int) := of_decide_eq_true asz
         have q220 : x6_2 < (l1.length : Int) := of_decide_eq_true asz
         obtain ⟨ad220, A220_0, c220_0, e220, hx220_0, hl220_0, hi220_0⟩ := at_L1 HR1.out x6_2 p220 q220
         cases e220
         replace hx220_0 := (HB.out.cell (World.block_lt_of_cell? w _ hx220_0)).trans hx220_0
         have HR220_0 := Aside0.mk hi220_0
         have HC220_0 := Aside0.mk hl220_0
         clear hi220_0 hl220_0
         replace p220 := eq_true p220
         replace q220 := eq_true q220
         go_wp2
         go_roundg k2
         case measure => have := HK1.out; have := HK2.out; omega
         case rel => exact ⟨(wrap64 (x6_2 + 1)), rsz, H', ⟨by have := HK1.out; have := HK2.out; omega⟩, ⟨blkz⟩, ⟨bel⟩⟩
       ·
        rw [if_neg c13] at H
        exact absurd H (by simp)
      ·
       rw [if_neg c12] at H
       have c12b0 : decide (x6_2 < (l1.length : Int)) = false := decide_eq_false c12
       clear c12
       obtain rfl := Option.some.inj H
       obtain ⟨hcz15_0, hcz15_1⟩ := bc2 BK217.out
       obtain ⟨hfz15_0, hfz15_1⟩ := bf2 BK217.out
       go_wp2
       go_ret
       exact ⟨ezz, bel⟩

/-! ### dropperref06_from: function 51 -/
def dropperref06_from.f (a0 : Int) (a1 : Int) (a2 : Int) : Option (Bool) := if a0 ≤ a1 then (some (decide (a1 ≤ a2))) else (some false)
set_option maxHeartbeats 8000000 in
set_option maxRecDepth 100000 in
theorem dropperref06_from.calls (a0 : Int) (a1 : Int) (a2 : Int) (r : Bool) (w : World) (h : dropperref06_from.f a0 a1 a2 = some r) :
  Calls Try.prog 51 #[.int .i64 a0, .int .i64 a1, .int .i64 a2] w fun e w' => e = .returned (.bool r) ∧ Drawn0 w w' := by
 have H : (if a0 ≤ a1 then (some (decide (a1 ≤ a2))) else (some false)) = some r := h
 clear h
 by_cases c4 : a0 ≤ a1
 ·
  rw [if_pos c4] at H
  have c4b0 : decide (a0 ≤ a1) = true := decide_eq_true c4
  clear c4
  obtain rfl := Option.some.inj H
  go_enter Try.func51, Try.ntmps51
  go_wp2
  go_ret
  exact ⟨by first | rfl | (simp; done) | (simp [*]; done), drz⟩
 ·
  rw [if_neg c4] at H
  have c4b0 : decide (a0 ≤ a1) = false := decide_eq_false c4
  clear c4
  obtain rfl := Option.some.inj H
  go_enter Try.func51, Try.ntmps51
  go_wp2
  go_ret
  exact ⟨by first | rfl | (simp; done) | (simp [*]; done), drz⟩

/-! ### dropperref06_list: function 52 -/
def dropperref06_list.l0 : Nat → List Int → Int → Int → Int → Int → Option (Bool)
 | 0, _, _, _, _, _ => none
 | k + 1, x0, x1, x2, x3, x9 => if x9 < (x0.length : Int) then (if 0 ≤ x9 then ((dropperref06_from.f x2 (rd x0 x9) x3).bind fun t222 => (if t222 = true then (dropperref06_list.l0 k x0 x1 x2 x3 (wrap64 (x9 + 1))) else (some false))) else (none)) else (some ((x0.length : Int) == x1))
def dropperref06_list.f (k : Nat) (l0 : List Int) (a1 : Int) (a2 : Int) (a3 : Int) : Option (Bool) := dropperref06_list.l0 k l0 a1 a2 a3 0
set_option maxHeartbeats 8000000 in
set_option maxRecDepth 100000 in
theorem dropperref06_list.calls (k : Nat) (A0 : Option Addr) (c0 : Nat) (l0 : List Int) (a1 : Int) (a2 : Int) (a3 : Int) (r : Bool) (w : World) (hr0 : Kd.C (Kd.int .i64) w A0 l0.length l0) (hc0 : l0.length ≤ c0) (h : dropperref06_list.f k l0 a1 a2 a3 = some r) :
  Calls Try.prog 52 #[.slice A0 l0.length c0, .int .i64 a1, .int .i64 a2, .int .i64 a3] w fun e w' => e = .returned (.bool r) ∧ Drawn0 w w' := by
 have HR0 := Aside0.mk hr0
 have HC0 := Aside0.mk hc0
 clear hr0 hc0
 have H : (dropperref06_list.l0 k l0 a1 a2 a3 0) = some r := h
 clear h
 have H' := Aside0.mk H
 clear H
 go_enter Try.func52, Try.ntmps52
 go_wp2
 go_loopg [9] k (fun kq v9 w' => ∃ (x9_1 : Int), v9 = .int .i64 x9_1 ∧ Aside0 (dropperref06_list.l0 kq l0 a1 a2 a3 x9_1 = some r) ∧ Aside0 (kq ≤ k) ∧ Drawn0 w w')
 case atStart => exact ⟨(0), rsz, H', ⟨Nat.le_refl _⟩, drz⟩
 case round =>
  clear H'
  try clear p2
  obtain ⟨x9_1, rfl, HA, HK1, ⟨m1, rfl⟩⟩ := hrel
  cases gk with
  | zero => exact absurd HA.out (by simp [dropperref06_list.l0])
  | succ k1 =>
   have H := HA.out
   clear HA
   simp only [dropperref06_list.l0] at H
   by_cases c5 : x9_1 < (l0.length : Int)
   ·
    rw [if_pos c5] at H
    have c5b0 : decide (x9_1 < (l0.length : Int)) = true := decide_eq_true c5
    clear c5
    by_cases c6 : 0 ≤ x9_1
    ·
     rw [if_pos c6] at H
     have c6b0 : decide (0 ≤ x9_1) = true := decide_eq_true c6
     clear c6
     replace H := Option.bind_eq_some_iff.mp H
     obtain ⟨t222, A70, H⟩ := H
     try dsimp only at H
     have A7 := Aside0.mk A70
     clear A70
     by_cases c8 : t222 = true
     ·
      subst c8
      rw [if_pos rfl] at H
      have H' := Aside0.mk H
      clear H
      have p221 : 0 ≤ (x9_1 : Int) := of_decide_eq_true asz
      have q221 : x9_1 < (l0.length : Int) := of_decide_eq_true asz
      obtain ⟨ad221, e221, hx221_0⟩ := Kd.at_int HR0.out x9_1 p221 q221
      cases e221
      replace p221 := eq_true p221
      replace q221 := eq_true q221
      go_wp2_with (first | ((with_reducible refine gate_callee (f := 51) rfl ?_); refine goesL_ (some 22) rfl rfl Try.func51 (by kernel_rfl) rfl #[.int .i64 a2, .int .i64 (rd l0 x9_1), .int .i64 a3] rfl mapz ?_; (with_reducible refine (dropperref06_from.calls a2 (rd l0 x9_1) a3 true _ A7.out).mono ?_); rintro e w' ⟨rfl, ⟨nd, rfl⟩⟩; refine ⟨_, rfl, ?_⟩))
      go_roundg k1
      case measure => have := HK1.out; omega
      case rel => exact ⟨(wrap64 (x9_1 + 1)), rsz, H', ⟨by have := HK1.out; omega⟩, drz⟩
     ·
      replace c8 := Bool.eq_false_iff.mpr c8
      subst c8
      rw [if_neg (show ¬ (false = true) by decide)] at H
      obtain rfl := Option.some.inj H
      have p221 : 0 ≤ (x9_1 : Int) := of_decide_eq_true asz
      have q221 : x9_1 < (l0.length : Int) := of_decide_eq_true asz
      obtain ⟨ad221, e221, hx221_0⟩ := Kd.at_int HR0.out x9_1 p221 q221
      cases e221
      replace p221 := eq_true p221
      replace q221 := eq_true q221
      go_wp2_with (first | ((with_reducible refine gate_callee (f := 51) rfl ?_); refine goesL_ (some 22) rfl rfl Try.func51 (by kernel_rfl) rfl #[.int .i64 a2, .int .i64 (rd l0 x9_1), .int .i64 a3] rfl mapz ?_; (with_reducible refine (dropperref06_from.calls a2 (rd l0 x9_1) a3 false _ A7.out).mono ?_); rintro e w' ⟨rfl, ⟨nd, rfl⟩⟩; refine ⟨_, rfl, ?_⟩))
      go_ret
      exact ⟨by first | rfl | (simp; done) | (simp [*]; done), drz⟩
    ·
     rw [if_neg c6] at H
     exact absurd H (by simp)
   ·
    rw [if_neg c5] at H
    have c5b0 : decide (x9_1 < (l0.length : Int)) = false := decide_eq_false c5
    clear c5
    obtain rfl := Option.some.inj H
    go_wp2
    go_ret
    exact ⟨by first | rfl | (simp; done) | (simp [*]; done), drz⟩

/-! ### dropperref06_Valid: function 12 -/
mutual
def dropperref06_Valid.j0 : Nat → Bool → Int → List (S64) → Option (Bool)
 | 0, _, _, _ => none
 | k + 1, x13, x224000, x224001 => if x13 = true then (some false) else (dropperref06_Valid.l0 k 0 x224000 x224001)
def dropperref06_Valid.l0 : Nat → Int → Int → List (S64) → Option (Bool)
 | 0, _, _, _ => none
 | k + 1, x3, x224000, x224001 => if x3 < (x224001.length : Int) then (if 0 ≤ x3 then ((dropperref06_list.f k ((rd_T64 x224001 x3).f0) x224000 0 3).bind fun t226 => (if t226 = true then ((dropperref06_list.f k ((rd_T64 x224001 x3).f1) x224000 0 3).bind fun t228 => (if t228 = true then (dropperref06_Valid.l0 k (wrap64 (x3 + 1)) x224000 x224001) else (some false))) else (some false))) else (none)) else (some true)
end
def dropperref06_Valid.f (k : Nat) (a0_0 : Int) (l0_1 : List (S64)) : Option (Bool) := (dropperref06_from.f 1 a0_0 6).bind fun t224 => (if t224 = true then (dropperref06_Valid.j0 k (decide ((l0_1.length : Int) > 8)) a0_0 l0_1) else (dropperref06_Valid.j0 k true a0_0 l0_1))
set_option maxHeartbeats 8000000 in
set_option maxRecDepth 100000 in
theorem dropperref06_Valid.calls (k : Nat) (a0_0 : Int) (A0_1 : Option Addr) (c0_1 : Nat) (l0_1 : List (S64)) (r : Bool) (w : World) (hr0_1 : Kd.C k64 w A0_1 l0_1.length l0_1) (hc0_1 : l0_1.length ≤ c0_1) (h : dropperref06_Valid.f k a0_0 l0_1 = some r) :
  Calls Try.prog 12 #[.agg #[.int .i64 a0_0, .slice A0_1 l0_1.length c0_1]] w fun e w' => e = .returned (.bool r) ∧ Below w.heap.size w w' := by
 have hu24 := Try.underlying24
 have HR0_1 := Aside0.mk hr0_1
 have HC0_1 := Aside0.mk hc0_1
 clear hr0_1 hc0_1
 have HB := Aside0.mk (Below.refl w.heap.size w)
 have H : ((dropperref06_from.f 1 a0_0 6).bind fun t224 => (if t224 = true then (dropperref06_Valid.j0 k (decide ((l0_1.length : Int) > 8)) a0_0 l0_1) else (dropperref06_Valid.j0 k true a0_0 l0_1))) = some r := h
 clear h
 have HC2 := Aside0.mk H
 clear H
 go_enter Try.func12, Try.ntmps12
 go_upto_region 1 with (first | ((with_reducible refine gate_dst (N := 1) rfl ?_); (try (refine gate_guard (by rfl) ?_; dsimp only)); refine box_event ?hg (N := 1) ?hd (cs := #[.int .i64 a0_0, .slice A0_1 l0_1.length c0_1]) (t := 24) ?hr ?_; (case hd => rfl); (case hg => rfl); (case hr => first | (go_simp; done) | (go_simp; rfl)); intro gb223 hg w3 hbox hb; have BK223 := Aside0.mk (hbox); have GW223 := bsz (w := w) hg; have GE223 := GW223; replace HB := Aside0.mk (below_step bel hb); clear hb hbox hg))
 repeat (go_quiet (first | ((with_reducible refine gate_dst (N := 1) rfl ?_); (try (refine gate_guard (by rfl) ?_; dsimp only)); refine box_event ?hg (N := 1) ?hd (cs := #[.int .i64 a0_0, .slice A0_1 l0_1.length c0_1]) (t := 24) ?hr ?_; (case hd => rfl); (case hg => rfl); (case hr => first | (go_simp; done) | (go_simp; rfl)); intro gb223 hg w3 hbox hb; have BK223 := Aside0.mk (hbox); have GW223 := bsz (w := w) hg; have GE223 := GW223; replace HB := Aside0.mk (below_step bel hb); clear hb hbox hg)); go_upto_region 1 with (first | ((with_reducible refine gate_dst (N := 1) rfl ?_); (try (refine gate_guard (by rfl) ?_; dsimp only)); refine box_event ?hg (N := 1) ?hd (cs := #[.int .i64 a0_0, .slice A0_1 l0_1.length c0_1]) (t := 24) ?hr ?_; (case hd => rfl); (case hg => rfl); (case hr => first | (go_simp; done) | (go_simp; rfl)); intro gb223 hg w3 hbox hb; have BK223 := Aside0.mk (hbox); have GW223 := bsz (w := w) hg; have GE223 := GW223; replace HB := Aside0.mk (below_step bel hb); clear hb hbox hg)))
 (try simp only [Act.put, List.setIfInBounds_toArray, List.set_cons_zero, List.set_cons_succ])
 go_cut [13] (fun v13 wc => ∃ (kq : Nat) (x13_1 : Bool), v13 = .bool x13_1 ∧ Aside0 (dropperref06_Valid.j0 kq x13_1 a0_0 l0_1 = some r) ∧ Aside0 (kq ≤ k) ∧ Aside0 (wc.heap[gb223]? = some (.cells #[.int .i64 a0_0, (.slice A0_1 l0_1.length c0_1)] 24 (0, 0))) ∧ Aside0 (Below w.heap.size w wc))
 case first =>
  have H := HC2.out
  clear HC2
  replace H := Option.bind_eq_some_iff.mp H
  obtain ⟨t224, A40, H⟩ := H
  try dsimp only at H
  have A4 := Aside0.mk A40
  clear A40
  by_cases c5 : t224 = true
  ·
   subst c5
   rw [if_pos rfl] at H
   have H' := Aside0.mk H
   clear H
   obtain ⟨hcz6_0, hcz6_1⟩ := bc2 BK223.out
   obtain ⟨hfz6_0, hfz6_1⟩ := bf2 BK223.out
   go_wp2_with (first | (go_at_call 51; (with_reducible refine (dropperref06_from.calls 1 a0_0 6 true _ A4.out).mono ?_); rintro e w' ⟨rfl, ⟨nd, rfl⟩⟩; (try first | exact ⟨rfl, _, World.drewN_drewN _ _ _⟩ | exact ⟨rfl, _, Eq.trans (World.drewN_drewN _ _ _) (congrArg (World.drewN _) (Nat.add_assoc _ _ _))⟩)))
   repeat (go_quiet (first | (go_at_call 51; (with_reducible refine (dropperref06_from.calls 1 a0_0 6 true _ A4.out).mono ?_); rintro e w' ⟨rfl, ⟨nd, rfl⟩⟩; (try first | exact ⟨rfl, _, World.drewN_drewN _ _ _⟩ | exact ⟨rfl, _, Eq.trans (World.drewN_drewN _ _ _) (congrArg (World.drewN _) (Nat.add_assoc _ _ _))⟩))); try go_wp2_with (first | (go_at_call 51; (with_reducible refine (dropperref06_from.calls 1 a0_0 6 true _ A4.out).mono ?_); rintro e w' ⟨rfl, ⟨nd, rfl⟩⟩; (try first | exact ⟨rfl, _, World.drewN_drewN _ _ _⟩ | exact ⟨rfl, _, Eq.trans (World.drewN_drewN _ _ _) (congrArg (World.drewN _) (Nat.add_assoc _ _ _))⟩))))
   go_meet
   case rel => exact ⟨_, (decide ((l0_1.length : Int) > 8)), rsz, H', ⟨by first | omega | exact Nat.le_refl _⟩, ⟨blkz⟩, ⟨bel⟩⟩
  ·
   replace c5 := Bool.eq_false_iff.mpr c5
   subst c5
   rw [if_neg (show ¬ (false = true) by decide)] at H
   have H' := Aside0.mk H
   clear H
   obtain ⟨hcz7_0, hcz7_1⟩ := bc2 BK223.out
   obtain ⟨hfz7_0, hfz7_1⟩ := bf2 BK223.out
   go_wp2_with (first | (go_at_call 51; (with_reducible refine (dropperref06_from.calls 1 a0_0 6 false _ A4.out).mono ?_); rintro e w' ⟨rfl, ⟨nd, rfl⟩⟩; (try first | exact ⟨rfl, _, World.drewN_drewN _ _ _⟩ | exact ⟨rfl, _, Eq.trans (World.drewN_drewN _ _ _) (congrArg (World.drewN _) (Nat.add_assoc _ _ _))⟩)))
   repeat (go_quiet (first | (go_at_call 51; (with_reducible refine (dropperref06_from.calls 1 a0_0 6 false _ A4.out).mono ?_); rintro e w' ⟨rfl, ⟨nd, rfl⟩⟩; (try first | exact ⟨rfl, _, World.drewN_drewN _ _ _⟩ | exact ⟨rfl, _, Eq.trans (World.drewN_drewN _ _ _) (congrArg (World.drewN _) (Nat.add_assoc _ _ _))⟩))); try go_wp2_with (first | (go_at_call 51; (with_reducible refine (dropperref06_from.calls 1 a0_0 6 false _ A4.out).mono ?_); rintro e w' ⟨rfl, ⟨nd, rfl⟩⟩; (try first | exact ⟨rfl, _, World.drewN_drewN _ _ _⟩ | exact ⟨rfl, _, Eq.trans (World.drewN_drewN _ _ _) (congrArg (World.drewN _) (Nat.add_assoc _ _ _))⟩))))
   go_meet
   case rel => exact ⟨_, (true), rsz, H', ⟨by first | omega | exact Nat.le_refl _⟩, ⟨blkz⟩, ⟨bel⟩⟩
 case rest =>
  clear HC2
  (try clear c1); (try clear p2); (try clear c5); (try clear hcz6_0); (try clear hcz6_1); (try clear hcz7_0); (try clear hcz7_1); (try clear hfz6_0); (try clear hfz6_1); (try clear hfz7_0); (try clear hfz7_1)
  obtain ⟨kq, x13_1, rfl, HA, HJ1, BK223, HB⟩ := hcut
  cases kq with
  | zero => exact absurd HA.out (by simp [dropperref06_Valid.j0])
  | succ kj1 =>
   have H := HA.out
   clear HA
   simp only [dropperref06_Valid.j0] at H
   by_cases c8 : x13_1 = true
   ·
    subst c8
    rw [if_pos rfl] at H
    obtain rfl := Option.some.inj H
    go_wp2
    repeat (go_quiet (fail); try go_wp2)
    go_ret
    exact ⟨ezz, bel⟩
   ·
    replace c8 := Bool.eq_false_iff.mpr c8
    subst c8
    rw [if_neg (show ¬ (false = true) by decide)] at H
    have H' := Aside0.mk H
    clear H
    go_wp2
    repeat (go_quiet (fail); try go_wp2)
    go_loopg [3] kj1 (fun kq v3 w' => ∃ (x3_2 : Int), v3 = .int .i64 x3_2 ∧ Aside0 (dropperref06_Valid.l0 kq x3_2 a0_0 l0_1 = some r) ∧ Aside0 (kq ≤ kj1) ∧ Aside0 (w'.heap[gb223]? = some (.cells #[.int .i64 a0_0, (.slice A0_1 l0_1.length c0_1)] 24 (0, 0))) ∧ Aside0 (Below w.heap.size w w'))
    case atStart => exact ⟨(0), rsz, H', ⟨Nat.le_refl _⟩, ⟨blkz⟩, ⟨bel⟩⟩
    case round =>
     clear H'
     (try clear c1); (try clear p2); (try clear c5); (try clear c8); (try clear hcz6_0); (try clear hcz6_1); (try clear hcz7_0); (try clear hcz7_1); (try clear hfz6_0); (try clear hfz6_1); (try clear hfz7_0); (try clear hfz7_1); (try clear p2)
     obtain ⟨x3_2, rfl, HA, HK2, BK223, HB⟩ := hrel
     cases gk with
     | zero => exact absurd HA.out (by simp [dropperref06_Valid.l0])
     | succ k2 =>
      have H := HA.out
      clear HA
      simp only [dropperref06_Valid.l0] at H
      by_cases c9 : x3_2 < (l0_1.length : Int)
      ·
       rw [if_pos c9] at H
       have c9b0 : decide (x3_2 < (l0_1.length : Int)) = true := decide_eq_true c9
       clear c9
       by_cases c10 : 0 ≤ x3_2
       ·
        rw [if_pos c10] at H
        have c10b0 : decide (0 ≤ x3_2) = true := decide_eq_true c10
        clear c10
        replace H := Option.bind_eq_some_iff.mp H
        obtain ⟨t226, A110, H⟩ := H
        try dsimp only at H
        have A11 := Aside0.mk A110
        clear A110
        by_cases c12 : t226 = true
        ·
         subst c12
         rw [if_pos rfl] at H
         replace H := Option.bind_eq_some_iff.mp H
         obtain ⟨t228, A130, H⟩ := H
         try dsimp only at H
         have A13 := Aside0.mk A130
         clear A130
         by_cases c14 : t228 = true
         ·
          subst c14
          rw [if_pos rfl] at H
          have H' := Aside0.mk H
          clear H
          obtain ⟨hcz15_0, hcz15_1⟩ := bc2 BK223.out
          obtain ⟨hfz15_0, hfz15_1⟩ := bf2 BK223.out
          have p225 : 0 ≤ (x3_2 : Int) := of_decide_eq_true asz
          have q225 : x3_2 < (l0_1.length : Int) := of_decide_eq_true asz
          obtain ⟨ad225, A225_0, c225_0, A225_1, c225_1, e225, hx225_0, hx225_1, hl225_0, hi225_0, hl225_1, hi225_1⟩ := at_T64 HR0_1.out x3_2 p225 q225
          cases e225
          replace hx225_0 := (HB.out.cell (World.block_lt_of_cell? w _ hx225_0)).trans hx225_0
          replace hx225_1 := (HB.out.cell (World.block_lt_of_cell? w _ hx225_1)).trans hx225_1
          have HR225_0 := Aside0.mk hi225_0
          have HC225_0 := Aside0.mk hl225_0
          clear hi225_0 hl225_0
          have HR225_1 := Aside0.mk hi225_1
          have HC225_1 := Aside0.mk hl225_1
          clear hi225_1 hl225_1
          replace p225 := eq_true p225
          replace q225 := eq_true q225
          go_wp2_with (first | (go_at_call 52; (with_reducible refine (dropperref06_list.calls k2 _ _ ((rd_T64 l0_1 x3_2).f0) a0_0 0 3 true _ (cbz HR225_0) HC225_0.out A11.out).mono ?_); rintro e w' ⟨rfl, ⟨nd, rfl⟩⟩; (try first | exact ⟨rfl, _, World.drewN_drewN _ _ _⟩ | exact ⟨rfl, _, Eq.trans (World.drewN_drewN _ _ _) (congrArg (World.drewN _) (Nat.add_assoc _ _ _))⟩); have p227 : 0 ≤ (x3_2 : Int) := of_decide_eq_true asz; have q227 : x3_2 < (l0_1.length : Int) := of_decide_eq_true asz; obtain ⟨ad227, A227_0, c227_0, A227_1, c227_1, e227, hx227_0, hx227_1, hl227_0, hi227_0, hl227_1, hi227_1⟩ := at_T64 HR0_1.out x3_2 p227 q227; obtain rfl : ad225 = ad227 := (by injection e227); replace hx227_0 := (HB.out.cell (World.block_lt_of_cell? w _ hx227_0)).trans hx227_0; replace hx227_1 := (HB.out.cell (World.block_lt_of_cell? w _ hx227_1)).trans hx227_1; have HR227_0 := Aside0.mk hi227_0; have HC227_0 := Aside0.mk hl227_0; clear hi227_0 hl227_0; have HR227_1 := Aside0.mk hi227_1; have HC227_1 := Aside0.mk hl227_1; clear hi227_1 hl227_1; replace p227 := eq_true p227; replace q227 := eq_true q227; have ea_ := Option.some.inj (hx225_0.symm.trans hx227_0); injection ea_ with ea_ en_ ec_; subst ea_; subst ec_; clear en_; have ea_ := Option.some.inj (hx225_1.symm.trans hx227_1); injection ea_ with ea_ en_ ec_; subst ea_; subst ec_; clear en_) | (go_at_call 52; (with_reducible refine (dropperref06_list.calls k2 _ _ ((rd_T64 l0_1 x3_2).f1) a0_0 0 3 true _ ?side1 HC227_1.out A13.out).mono ?_); (case side1 => repeat (first | exact (Kd.C_below HR227_1.out bel) | (with_reducible refine Kd.C_alloc ?_ _) | (with_reducible refine Kd.C_drewN ?_ _) | (with_reducible refine Kd.C_drew ?_))); rintro e w' ⟨rfl, ⟨nd, rfl⟩⟩; (try first | exact ⟨rfl, _, World.drewN_drewN _ _ _⟩ | exact ⟨rfl, _, Eq.trans (World.drewN_drewN _ _ _) (congrArg (World.drewN _) (Nat.add_assoc _ _ _))⟩)))
          repeat (go_quiet (first | (go_at_call 52; (with_reducible refine (dropperref06_list.calls k2 _ _ ((rd_T64 l0_1 x3_2).f0) a0_0 0 3 true _ (cbz HR225_0) HC225_0.out A11.out).mono ?_); rintro e w' ⟨rfl, ⟨nd, rfl⟩⟩; (try first | exact ⟨rfl, _, World.drewN_drewN _ _ _⟩ | exact ⟨rfl, _, Eq.trans (World.drewN_drewN _ _ _) (congrArg (World.drewN _) (Nat.add_assoc _ _ _))⟩); have p227 : 0 ≤ (x3_2 : Int) := of_decide_eq_true asz; have q227 : x3_2 < (l0_1.length : Int) := of_decide_eq_true asz; obtain ⟨ad227, A227_0, c227_0, A227_1, c227_1, e227, hx227_0, hx227_1, hl227_0, hi227_0, hl227_1, hi227_1⟩ := at_T64 HR0_1.out x3_2 p227 q227; obtain rfl : ad225 = ad227 := (by injection e227); replace hx227_0 := (HB.out.cell (World.block_lt_of_cell? w _ hx227_0)).trans hx227_0; replace hx227_1 := (HB.out.cell (World.block_lt_of_cell? w _ hx227_1)).trans hx227_1; have HR227_0 := Aside0.mk hi227_0; have HC227_0 := Aside0.mk hl227_0; clear hi227_0 hl227_0; have HR227_1 := Aside0.mk hi227_1; have HC227_1 := Aside0.mk hl227_1; clear hi227_1 hl227_1; replace p227 := eq_true p227; replace q227 := eq_true q227; have ea_ := Option.some.inj (hx225_0.symm.trans hx227_0); injection ea_ with ea_ en_ ec_; subst ea_; subst ec_; clear en_; have ea_ := Option.some.inj (hx225_1.symm.trans hx227_1); injection ea_ with ea_ en_ ec_; subst ea_; subst ec_; clear en_) | (go_at_call 52; (with_reducible refine (dropperref06_list.calls k2 _ _ ((rd_T64 l0_1 x3_2).f1) a0_0 0 3 true _ ?side1 HC227_1.out A13.out).mono ?_); (case side1 => repeat (first | exact (Kd.C_below HR227_1.out bel) | (with_reducible refine Kd.C_alloc ?_ _) | (with_reducible refine Kd.C_drewN ?_ _) | (with_reducible refine Kd.C_drew ?_))); rintro e w' ⟨rfl, ⟨nd, rfl⟩⟩; (try first | exact ⟨rfl, _, World.drewN_drewN _ _ _⟩ | exact ⟨rfl, _, Eq.trans (World.drewN_drewN _ _ _) (congrArg (World.drewN _) (Nat.add_assoc _ _ _))⟩))); try go_wp2_with (first | (go_at_call 52; (with_reducible refine (dropperref06_list.calls k2 _ _ ((rd_T64 l0_1 x3_2).f0) a0_0 0 3 true _ (cbz HR225_0) HC225_0.out A11.out).mono ?_); rintro e w' ⟨rfl, ⟨nd, rfl⟩⟩; (try first | exact ⟨rfl, _, World.drewN_drewN _ _ _⟩ | exact ⟨rfl, _, Eq.trans (World.drewN_drewN _ _ _) (congrArg (World.drewN _) (Nat.add_assoc _ _ _))⟩); have p227 : 0 ≤ (x3_2 : Int) := of_decide_eq_true asz; have q227 : x3_2 < (l0_1.length : Int) := of_decide_eq_true asz; obtain ⟨ad227, A227_0, c227_0, A227_1, c227_1, e227, hx227_0, hx227_1, hl227_0, hi227_0, hl227_1, hi227_1⟩ := at_T64 HR0_1.out x3_2 p227 q227; obtain rfl : ad225 = ad227 := (by injection e227); replace hx227_0 := (HB.out.cell (World.block_lt_of_cell? w _ hx227_0)).trans hx227_0; replace hx227_1 := (HB.out.cell (World.block_lt_of_cell? w _ hx227_1)).trans hx227_1; have HR227_0 := Aside0.mk hi227_0; have HC227_0 := Aside0.mk hl227_0; clear hi227_0 hl227_0; have HR227_1 := Aside0.mk hi227_1; have HC227_1 := Aside0.mk hl227_1; clear hi227_1 hl227_1; replace p227 := eq_true p227; replace q227 := eq_true q227; have ea_ := Option.some.inj (hx225_0.symm.trans hx227_0); injection ea_ with ea_ en_ ec_; subst ea_; subst ec_; clear en_; have ea_ := Option.some.inj (hx225_1.symm.trans hx227_1); injection ea_ with ea_ en_ ec_; subst ea_; subst ec_; clear en_) | (go_at_call 52; (with_reducible refine (dropperref06_list.calls k2 _ _ ((rd_T64 l0_1 x3_2).f1) a0_0 0 3 true _ ?side1 HC227_1.out A13.out).mono ?_); (case side1 => repeat (first | exact (Kd.C_below HR227_1.out bel) | (with_reducible refine Kd.C_alloc ?_ _) | (with_reducible refine Kd.C_drewN ?_ _) | (with_reducible refine Kd.C_drew ?_))); rintro e w' ⟨rfl, ⟨nd, rfl⟩⟩; (try first | exact ⟨rfl, _, World.drewN_drewN _ _ _⟩ | exact ⟨rfl, _, Eq.trans (World.drewN_drewN _ _ _) (congrArg (World.drewN _) (Nat.add_assoc _ _ _))⟩))))
          go_roundg k2
          case measure => have := HJ1.out; have := HK2.out; omega
          case rel => exact ⟨(wrap64 (x3_2 + 1)), rsz, H', ⟨by have := HJ1.out; have := HK2.out; omega⟩, ⟨blkz⟩, ⟨bel⟩⟩
         ·
          replace c14 := Bool.eq_false_iff.mpr c14
          subst c14
          rw [if_neg (show ¬ (false = true) by decide)] at H
          obtain rfl := Option.some.inj H
          obtain ⟨hcz16_0, hcz16_1⟩ := bc2 BK223.out
          obtain ⟨hfz16_0, hfz16_1⟩ := bf2 BK223.out
          have p225 : 0 ≤ (x3_2 : Int) := of_decide_eq_true asz
          have q225 : x3_2 < (l0_1.length : Int) := of_decide_eq_true asz
          obtain ⟨ad225, A225_0, c225_0, A225_1, c225_1, e225, hx225_0, hx225_1, hl225_0, hi225_0, hl225_1, hi225_1⟩ := at_T64 HR0_1.out x3_2 p225 q225
          cases e225
          replace hx225_0 := (HB.out.cell (World.block_lt_of_cell? w _ hx225_0)).trans hx225_0
          replace hx225_1 := (HB.out.cell (World.block_lt_of_cell? w _ hx225_1)).trans hx225_1
          have HR225_0 := Aside0.mk hi225_0
          have HC225_0 := Aside0.mk hl225_0
          clear hi225_0 hl225_0
          have HR225_1 := Aside0.mk hi225_1
          have HC225_1 := Aside0.mk hl225_1
          clear hi225_1 hl225_1
          replace p225 := eq_true p225
          replace q225 := eq_true q225
          go_wp2_with (first | (go_at_call 52; (with_reducible refine (dropperref06_list.calls k2 _ _ ((rd_T64 l0_1 x3_2).f0) a0_0 0 3 true _ (cbz HR225_0) HC225_0.out A11.out).mono ?_); rintro e w' ⟨rfl, ⟨nd, rfl⟩⟩; (try first | exact ⟨rfl, _, World.drewN_drewN _ _ _⟩ | exact ⟨rfl, _, Eq.trans (World.drewN_drewN _ _ _) (congrArg (World.drewN _) (Nat.add_assoc _ _ _))⟩); have p227 : 0 ≤ (x3_2 : Int) := of_decide_eq_true asz; have q227 : x3_2 < (l0_1.length : Int) := of_decide_eq_true asz; obtain ⟨ad227, A227_0, c227_0, A227_1, c227_1, e227, hx227_0, hx227_1, hl227_0, hi227_0, hl227_1, hi227_1⟩ := at_T64 HR0_1.out x3_2 p227 q227; obtain rfl : ad225 = ad227 := (by injection e227); replace hx227_0 := (HB.out.cell (World.block_lt_of_cell? w _ hx227_0)).trans hx227_0; replace hx227_1 := (HB.out.cell (World.block_lt_of_cell? w _ hx227_1)).trans hx227_1; have HR227_0 := Aside0.mk hi227_0; have HC227_0 := Aside0.mk hl227_0; clear hi227_0 hl227_0; have HR227_1 := Aside0.mk hi227_1; have HC227_1 := Aside0.mk hl227_1; clear hi227_1 hl227_1; replace p227 := eq_true p227; replace q227 := eq_true q227; have ea_ := Option.some.inj (hx225_0.symm.trans hx227_0); injection ea_ with ea_ en_ ec_; subst ea_; subst ec_; clear en_; have ea_ := Option.some.inj (hx225_1.symm.trans hx227_1); injection ea_ with ea_ en_ ec_; subst ea_; subst ec_; clear en_) | (go_at_call 52; (with_reducible refine (dropperref06_list.calls k2 _ _ ((rd_T64 l0_1 x3_2).f1) a0_0 0 3 false _ ?side1 HC227_1.out A13.out).mono ?_); (case side1 => repeat (first | exact (Kd.C_below HR227_1.out bel) | (with_reducible refine Kd.C_alloc ?_ _) | (with_reducible refine Kd.C_drewN ?_ _) | (with_reducible refine Kd.C_drew ?_))); rintro e w' ⟨rfl, ⟨nd, rfl⟩⟩; (try first | exact ⟨rfl, _, World.drewN_drewN _ _ _⟩ | exact ⟨rfl, _, Eq.trans (World.drewN_drewN _ _ _) (congrArg (World.drewN _) (Nat.add_assoc _ _ _))⟩)))
          repeat (go_quiet (first | (go_at_call 52; (with_reducible refine (dropperref06_list.calls k2 _ _ ((rd_T64 l0_1 x3_2).f0) a0_0 0 3 true _ (cbz HR225_0) HC225_0.out A11.out).mono ?_); rintro e w' ⟨rfl, ⟨nd, rfl⟩⟩; (try first | exact ⟨rfl, _, World.drewN_drewN _ _ _⟩ | exact ⟨rfl, _, Eq.trans (World.drewN_drewN _ _ _) (congrArg (World.drewN _) (Nat.add_assoc _ _ _))⟩); have p227 : 0 ≤ (x3_2 : Int) := of_decide_eq_true asz; have q227 : x3_2 < (l0_1.length : Int) := of_decide_eq_true asz; obtain ⟨ad227, A227_0, c227_0, A227_1, c227_1, e227, hx227_0, hx227_1, hl227_0, hi227_0, hl227_1, hi227_1⟩ := at_T64 HR0_1.out x3_2 p227 q227; obtain rfl : ad225 = ad227 := (by injection e227); replace hx227_0 := (HB.out.cell (World.block_lt_of_cell? w _ hx227_0)).trans hx227_0; replace hx227_1 := (HB.out.cell (World.block_lt_of_cell? w _ hx227_1)).trans hx227_1; have HR227_0 := Aside0.mk hi227_0; have HC227_0 := Aside0.mk hl227_0; clear hi227_0 hl227_0; have HR227_1 := Aside0.mk hi227_1; have HC227_1 := Aside0.mk hl227_1; clear hi227_1 hl227_1; replace p227 := eq_true p227; replace q227 := eq_true q227; have ea_ := Option.some.inj (hx225_0.symm.trans hx227_0); injection ea_ with ea_ en_ ec_; subst ea_; subst ec_; clear en_; have ea_ := Option.some.inj (hx225_1.symm.trans hx227_1); injection ea_ with ea_ en_ ec_; subst ea_; subst ec_; clear en_) | (go_at_call 52; (with_reducible refine (dropperref06_list.calls k2 _ _ ((rd_T64 l0_1 x3_2).f1) a0_0 0 3 false _ ?side1 HC227_1.out A13.out).mono ?_); (case side1 => repeat (first | exact (Kd.C_below HR227_1.out bel) | (with_reducible refine Kd.C_alloc ?_ _) | (with_reducible refine Kd.C_drewN ?_ _) | (with_reducible refine Kd.C_drew ?_))); rintro e w' ⟨rfl, ⟨nd, rfl⟩⟩; (try first | exact ⟨rfl, _, World.drewN_drewN _ _ _⟩ | exact ⟨rfl, _, Eq.trans (World.drewN_drewN _ _ _) (congrArg (World.drewN _) (Nat.add_assoc _ _ _))⟩))); try go_wp2_with (first | (go_at_call 52; (with_reducible refine (dropperref06_list.calls k2 _ _ ((rd_T64 l0_1 x3_2).f0) a0_0 0 3 true _ (cbz HR225_0) HC225_0.out A11.out).mono ?_); rintro e w' ⟨rfl, ⟨nd, rfl⟩⟩; (try first | exact ⟨rfl, _, World.drewN_drewN _ _ _⟩ | exact ⟨rfl, _, Eq.trans (World.drewN_drewN _ _ _) (congrArg (World.drewN _) (Nat.add_assoc _ _ _))⟩); have p227 : 0 ≤ (x3_2 : Int) := of_decide_eq_true asz; have q227 : x3_2 < (l0_1.length : Int) := of_decide_eq_true asz; obtain ⟨ad227, A227_0, c227_0, A227_1, c227_1, e227, hx227_0, hx227_1, hl227_0, hi227_0, hl227_1, hi227_1⟩ := at_T64 HR0_1.out x3_2 p227 q227; obtain rfl : ad225 = ad227 := (by injection e227); replace hx227_0 := (HB.out.cell (World.block_lt_of_cell? w _ hx227_0)).trans hx227_0; replace hx227_1 := (HB.out.cell (World.block_lt_of_cell? w _ hx227_1)).trans hx227_1; have HR227_0 := Aside0.mk hi227_0; have HC227_0 := Aside0.mk hl227_0; clear hi227_0 hl227_0; have HR227_1 := Aside0.mk hi227_1; have HC227_1 := Aside0.mk hl227_1; clear hi227_1 hl227_1; replace p227 := eq_true p227; replace q227 := eq_true q227; have ea_ := Option.some.inj (hx225_0.symm.trans hx227_0); injection ea_ with ea_ en_ ec_; subst ea_; subst ec_; clear en_; have ea_ := Option.some.inj (hx225_1.symm.trans hx227_1); injection ea_ with ea_ en_ ec_; subst ea_; subst ec_; clear en_) | (go_at_call 52; (with_reducible refine (dropperref06_list.calls k2 _ _ ((rd_T64 l0_1 x3_2).f1) a0_0 0 3 false _ ?side1 HC227_1.out A13.out).mono ?_); (case side1 => repeat (first | exact (Kd.C_below HR227_1.out bel) | (with_reducible refine Kd.C_alloc ?_ _) | (with_reducible refine Kd.C_drewN ?_ _) | (with_reducible refine Kd.C_drew ?_))); rintro e w' ⟨rfl, ⟨nd, rfl⟩⟩; (try first | exact ⟨rfl, _, World.drewN_drewN _ _ _⟩ | exact ⟨rfl, _, Eq.trans (World.drewN_drewN _ _ _) (congrArg (World.drewN _) (Nat.add_assoc _ _ _))⟩))))
          go_ret
          exact ⟨ezz, bel⟩
        ·
         replace c12 := Bool.eq_false_iff.mpr c12
         subst c12
         rw [if_neg (show ¬ (false = true) by decide)] at H
         obtain rfl := Option.some.inj H
         obtain ⟨hcz17_0, hcz17_1⟩ := bc2 BK223.out
         obtain ⟨hfz17_0, hfz17_1⟩ := bf2 BK223.out
         have p225 : 0 ≤ (x3_2 : Int) := of_decide_eq_true asz
         have q225 : x3_2 < (l0_1.length : Int) := of_decide_eq_true asz
         obtain ⟨ad225, A225_0, c225_0, A225_1, c225_1, e225, hx225_0, hx225_1, hl225_0, hi225_0, hl225_1, hi225_1⟩ := at_T64 HR0_1.out x3_2 p225 q225
         cases e225
         replace hx225_0 := (HB.out.cell (World.block_lt_of_cell? w _ hx225_0)).trans hx225_0
         replace hx225_1 := (HB.out.cell (World.block_lt_of_cell? w _ hx225_1)).trans hx225_1
         have HR225_0 := Aside0.mk hi225_0
         have HC225_0 := Aside0.mk hl225_0
         clear hi225_0 hl225_0
         have HR225_1 := Aside0.mk hi225_1
         have HC225_1 := Aside0.mk hl225_1
         clear hi225_1 hl225_1
         replace p225 := eq_true p225
         replace q225 := eq_true q225
         go_wp2_with (first | (go_at_call 52; (with_reducible refine (dropperref06_list.calls k2 _ _ ((rd_T64 l0_1 x3_2).f0) a0_0 0 3 false _ (cbz HR225_0) HC225_0.out A11.out).mono ?_); rintro e w' ⟨rfl, ⟨nd, rfl⟩⟩; (try first | exact ⟨rfl, _, World.drewN_drewN _ _ _⟩ | exact ⟨rfl, _, Eq.trans (World.drewN_drewN _ _ _) (congrArg (World.drewN _) (Nat.add_assoc _ _ _))⟩)))
         repeat (go_quiet (first | (go_at_call 52; (with_reducible refine (dropperref06_list.calls k2 _ _ ((rd_T64 l0_1 x3_2).f0) a0_0 0 3 false _ (cbz HR225_0) HC225_0.out A11.out).mono ?_); rintro e w' ⟨rfl, ⟨nd, rfl⟩⟩; (try first | exact ⟨rfl, _, World.drewN_drewN _ _ _⟩ | exact ⟨rfl, _, Eq.trans (World.drewN_drewN _ _ _) (congrArg (World.drewN _) (Nat.add_assoc _ _ _))⟩))); try go_wp2_with (first | (go_at_call 52; (with_reducible refine (dropperref06_list.calls k2 _ _ ((rd_T64 l0_1 x3_2).f0) a0_0 0 3 false _ (cbz HR225_0) HC225_0.out A11.out).mono ?_); rintro e w' ⟨rfl, ⟨nd, rfl⟩⟩; (try first | exact ⟨rfl, _, World.drewN_drewN _ _ _⟩ | exact ⟨rfl, _, Eq.trans (World.drewN_drewN _ _ _) (congrArg (World.drewN _) (Nat.add_assoc _ _ _))⟩))))
         go_ret
         exact ⟨ezz, bel⟩
       ·
        rw [if_neg c10] at H
        exact absurd H (by simp)
      ·
       rw [if_neg c9] at H
       have c9b0 : decide (x3_2 < (l0_1.length : Int)) = false := decide_eq_false c9
       clear c9
       obtain rfl := Option.some.inj H
       obtain ⟨hcz18_0, hcz18_1⟩ := bc2 BK223.out
       obtain ⟨hfz18_0, hfz18_1⟩ := bf2 BK223.out
       go_wp2
       repeat (go_quiet (fail); try go_wp2)
       go_ret
       exact ⟨ezz, bel⟩

/-! ### dropperref06_Keys: function 13 -/
def dropperref06_Keys.f (k : Nat) (a0_0 : Int) (l0_1 : List (S64)) (l1 : List Int) : Option (Bool) := (dropperref06_list.f k l1 a0_0 0 100).bind fun t243 => (some t243)
set_option maxHeartbeats 8000000 in
set_option maxRecDepth 100000 in
theorem dropperref06_Keys.calls (k : Nat) (a0_0 : Int) (A0_1 : Option Addr) (c0_1 : Nat) (l0_1 : List (S64)) (A1 : Option Addr) (c1 : Nat) (l1 : List Int) (r : Bool) (w : World) (hr0_1 : Kd.C k64 w A0_1 l0_1.length l0_1) (hc0_1 : l0_1.length ≤ c0_1) (hr1 : Kd.C (Kd.int .i64) w A1 l1.length l1) (hc1 : l1.length ≤ c1) (h : dropperref06_Keys.f k a0_0 l0_1 l1 = some r) :
  Calls Try.prog 13 #[.agg #[.int .i64 a0_0, .slice A0_1 l0_1.length c0_1], .slice A1 l1.length c1] w fun e w' => e = .returned (.bool r) ∧ Below w.heap.size w w' := by
 have hu24 := Try.underlying24
 have HR0_1 := Aside0.mk hr0_1
 have HC0_1 := Aside0.mk hc0_1
 clear hr0_1 hc0_1
 have HR1 := Aside0.mk hr1
 have HC1 := Aside0.mk hc1
 clear hr1 hc1
 have HB := Aside0.mk (Below.refl w.heap.size w)
 have H : ((dropperref06_list.f k l1 a0_0 0 100).bind fun t243 => (some t243)) = some r := h
 clear h
 replace H := Option.bind_eq_some_iff.mp H
 obtain ⟨t243, A30, H⟩ := H
 try dsimp only at H
 have A3 := Aside0.mk A30
 clear A30
 obtain rfl := Option.some.inj H
 go_enter Try.func13, Try.ntmps13
 go_wp2_with (first | ((with_reducible refine gate_dst (N := 2) rfl ?_); refine box_event ?hg (N := 2) ?hd (cs := #[.int .i64 a0_0, .slice A0_1 l0_1.length c0_1]) (t := 24) ?hr ?_; (case hd => rfl); (case hg => rfl); (case hr => first | (go_simp; done) | (go_simp; rfl)); intro gb242 hg w4 hbox hb; have BK242 := Aside0.mk (hbox); have GW242 := bsz (w := w) hg; have GE242 := GW242; replace HB := Aside0.mk (below_step bel hb); clear hb hbox hg; obtain ⟨hcz5_0, hcz5_1⟩ := bc2 BK242.out) | ((with_reducible refine gate_callee (f := 52) rfl ?_); refine goesL_ (some 8) rfl rfl Try.func52 (by kernel_rfl) rfl #[.slice A1 l1.length c1, .int .i64 a0_0, .int .i64 0, .int .i64 100] rfl mapz ?_; (with_reducible refine (dropperref06_list.calls k _ _ l1 a0_0 0 100 t243 _ (cbz HR1) HC1.out A3.out).mono ?_); rintro e w' ⟨rfl, ⟨nd, rfl⟩⟩; refine ⟨_, rfl, ?_⟩))
 go_ret
 exact ⟨ezz, bel⟩

/-! ### dropperref06_asked: function 72 -/
def dropperref06_asked.l0 : Nat → List (List Int) → Int → Int → List (S64) → Option (Int)
 | 0, _, _, _, _ => none
 | k + 1, x1, x5, x245000, x245001 => if x5 < (x1.length : Int) then (if 0 ≤ x5 then ((dropperref06_Keys.f k x245000 x245001 (rd_L1 x1 x5)).bind fun t247 => (if t247 = true then (dropperref06_asked.l0 k x1 (wrap64 (x5 + 1)) x245000 x245001) else (some 61))) else (none)) else (some 0)
def dropperref06_asked.f (k : Nat) (a0_0 : Int) (l0_1 : List (S64)) (l1 : List (List Int)) : Option (Int) := (dropperref06_Valid.f k a0_0 l0_1).bind fun t245 => (if t245 = true then (dropperref06_asked.l0 k l1 0 a0_0 l0_1) else (some 60))
set_option maxHeartbeats 8000000 in
set_option maxRecDepth 100000 in
theorem dropperref06_asked.calls (k : Nat) (a0_0 : Int) (A0_1 : Option Addr) (c0_1 : Nat) (l0_1 : List (S64)) (A1 : Option Addr) (c1 : Nat) (l1 : List (List Int)) (r : Int) (w : World) (hr0_1 : Kd.C k64 w A0_1 l0_1.length l0_1) (hc0_1 : l0_1.length ≤ c0_1) (hr1 : Kd.C (Kd.slice 3 (Kd.int .i64)) w A1 l1.length l1) (hc1 : l1.length ≤ c1) (h : dropperref06_asked.f k a0_0 l0_1 l1 = some r) :
  Calls Try.prog 72 #[.agg #[.int .i64 a0_0, .slice A0_1 l0_1.length c0_1], .slice A1 l1.length c1] w fun e w' => e = .returned (.int .i64 r) ∧ Below w.heap.size w w' := by
 have hu24 := Try.underlying24
 have HR0_1 := Aside0.mk hr0_1
 have HC0_1 := Aside0.mk hc0_1
 clear hr0_1 hc0_1
 have HR1 := Aside0.mk hr1
 have HC1 := Aside0.mk hc1
 clear hr1 hc1
 have HB := Aside0.mk (Below.refl w.heap.size w)
 have H : ((dropperref06_Valid.f k a0_0 l0_1).bind fun t245 => (if t245 = true then (dropperref06_asked.l0 k l1 0 a0_0 l0_1) else (some 60))) = some r := h
 clear h
 replace H := Option.bind_eq_some_iff.mp H
 obtain ⟨t245, A30, H⟩ := H
 try dsimp only at H
 have A3 := Aside0.mk A30
 clear A30
 by_cases c4 : t245 = true
 ·
  subst c4
  rw [if_pos rfl] at H
  have H' := Aside0.mk H
  clear H
  go_enter Try.func72, Try.ntmps72
  go_wp2_with (first | ((with_reducible refine gate_dst (N := 2) rfl ?_); refine box_event ?hg (N := 2) ?hd (cs := #[.int .i64 a0_0, .slice A0_1 l0_1.length c0_1]) (t := 24) ?hr ?_; (case hd => rfl); (case hg => rfl); (case hr => first | (go_simp; done) | (go_simp; rfl)); intro gb244 hg w5 hbox hb; have BK244 := Aside0.mk (hbox); have GW244 := bsz (w := w) hg; have GE244 := GW244; replace HB := Aside0.mk (below_step bel hb); clear hb hbox hg; obtain ⟨hcz6_0, hcz6_1⟩ := bc2 BK244.out) | ((with_reducible refine gate_callee (f := 12) rfl ?_); refine goesL_ (some 7) rfl rfl Try.func12 (by kernel_rfl) rfl #[.agg #[.int .i64 a0_0, .slice A0_1 l0_1.length c0_1]] rfl mapz ?_; (with_reducible refine (dropperref06_Valid.calls k a0_0 _ _ l0_1 true _ (cbz HR0_1) HC0_1.out A3.out).mono ?_); rintro e w7 ⟨rfl, hb⟩; refine ⟨_, rfl, ?_⟩; replace BK244 := Aside0.mk (blk_below (g := gb244) blkz hb); replace HB := Aside0.mk (below_step bel hb); clear hb))
  go_loopg [5] k (fun kq v5 w' => ∃ (x5_1 : Int), v5 = .int .i64 x5_1 ∧ Aside0 (dropperref06_asked.l0 kq l1 x5_1 a0_0 l0_1 = some r) ∧ Aside0 (kq ≤ k) ∧ Aside0 (w'.heap[gb244]? = some (.cells #[.int .i64 a0_0, (.slice A0_1 l0_1.length c0_1)] 24 (0, 0))) ∧ Aside0 (Below w.heap.size w w'))
  case atStart => exact ⟨(0), rsz, H', ⟨Nat.le_refl _⟩, ⟨blkz⟩, ⟨bel⟩⟩
  case round =>
   clear H'
   (try clear c1); (try clear p2); (try clear c4); (try clear c7); (try clear hcz6_0); (try clear hcz6_1); (try clear hfz6_0); (try clear hfz6_1)
   obtain ⟨x5_1, rfl, HA, HK1, BK244, HB⟩ := hrel
   cases gk with
   | zero => exact absurd HA.out (by simp [dropperref06_asked.l0])
   | succ k1 =>
    have H := HA.out
    clear HA
    simp only [dropperref06_asked.l0] at H
    by_cases c8 : x5_1 < (l1.length : Int)
    ·
     rw [if_pos c8] at H
     have c8b0 : decide (x5_1 < (l1.length : Int)) = true := decide_eq_true c8
     clear c8
     by_cases c9 : 0 ≤ x5_1
     ·
      rw [if_pos c9] at H
      have c9b0 : decide (0 ≤ x5_1) = true := decide_eq_true c9
      clear c9
      replace H := Option.bind_eq_some_iff.mp H
      obtain ⟨t247, A100, H⟩ := H
      try dsimp only at H
      have A10 := Aside0.mk A100
      clear A100
      by_cases c11 : t247 = true
      ·
       subst c11
       rw [if_pos rfl] at H
       have H' := Aside0.mk H
       clear H
       try go_wp2
       have n0_ := Aside0.mk (blk_drew BK244.out)
       have n1_ := Aside0.mk (below_drew1 HB.out)
       clear BK244
       clear HB
       have BK244 := n0_
       have HB := n1_
       clear n0_ n1_
       have p246 : 0 ≤ (x5_1 : Int) := of_decide_eq_true asz
       have q246 : x5_1 < (l1.length : Int) := of_decide_eq_true asz
       obtain ⟨ad246, A246_0, c246_0, e246, hx246_0, hl246_0, hi246_0⟩ := at_L1 HR1.out x5_1 p246 q246
       have hw246_0 := hx246_0
       cases e246
       replace hx246_0 := (HB.out.cell (World.block_lt_of_cell? w _ hx246_0)).trans hx246_0
       have HR246_0 := Aside0.mk hi246_0
       have HC246_0 := Aside0.mk hl246_0
       clear hi246_0 hl246_0
       replace p246 := eq_true p246
       replace q246 := eq_true q246
       refine start_ (n := 7) (S := fun w' => w'.cell? ⟨gb244, 0, none⟩ = some (.int .i64 a0_0) ∧ w'.cell? ⟨gb244, 1, none⟩ = some (.slice A0_1 l0_1.length c0_1) ∧ w'.cell? (ad246.add (x5_1).toNat) = some (.slice A246_0 (rd_L1 l1 x5_1).length c246_0)) (ds := []) #[false, false, false, false, false, false, false] (by kernel_rfl) rfl rfl ⟨(blk_cell BK244.out 0).trans rfl, (blk_cell BK244.out 1).trans rfl, ((HB.out.cell (World.block_lt_of_cell? w _ hw246_0)).trans hw246_0)⟩ (fun hHeld => ?_)
       generalize wr.drew = w12 at BK244 HB HR246_0 hx246_0 hHeld ⊢
       refine pst (i := 1) (N := some 16) (bz 7 2) (by kernel_rfl) ?_
       refine pst (i := 2) (N := some 17) (bz 7 6) (by kernel_rfl) ?_
       refine pst (i := 3) (N := some 18) (bz 7 14) (by kernel_rfl) ?_
       refine tst3 (i := 0) (N := some 15) (bz 7 15) (by kernel_rfl) hHeld ?_
       refine tst3 (i := 4) (N := some 19) (bz 7 31) (by kernel_rfl) hHeld ?_
       refine one_ (i := 5) (N := some 20) #[true, true, true, true, true, true, false] rfl rfl (by kernel_rfl) (by decide) (fun K hK => ?_)
       refine goes_ Try.func13 (by kernel_rfl) rfl #[.agg #[.int .i64 a0_0, .slice A0_1 l0_1.length c0_1], .slice A246_0 (rd_L1 l1 x5_1).length c246_0] (by rfl) rfl rfl mapz ?_
       with_reducible refine (dropperref06_Keys.calls k1 a0_0 _ _ l0_1 _ _ (rd_L1 l1 x5_1) true _ ?side1 ?side2 ?side3 ?side4 A10.out).mono ?_
       (case side1 => exact cbz HR0_1)
       (case side2 => exact HC0_1.out)
       (case side3 => exact cbz HR246_0)
       (case side4 => exact HC246_0.out)
       rintro e w13 ⟨rfl, hb⟩
       refine ⟨_, rfl, ?_⟩
       have n0_ := Aside0.mk (blk_below (g := gb244) blkz hb)
       have n1_ := Aside0.mk (below_step bel hb)
       clear BK244
       clear HB
       have BK244 := n0_
       have HB := n1_
       clear n0_ n1_
       (try clear hb)
       (try clear hb2)
       (try clear hk)
       (try clear hi)
       refine hK.out _ _ ⟨(blk_cell BK244.out 0).trans rfl, (blk_cell BK244.out 1).trans rfl, ((HB.out.cell (World.block_lt_of_cell? w _ hw246_0)).trans hw246_0)⟩ (fun hHeld => ?_)
       clear hK K
       refine norm_ (a' := ?_) ?_ ?_
       rotate_left
       ·
        show Act.put _ (some 20) _ = _
        simp only [Act.put, List.setIfInBounds_toArray, List.set_cons_zero, List.set_cons_succ, i64_w, i32_w]
        rfl
       refine pst (i := 6) (N := some 21) (bz 7 127) (by kernel_rfl) ?_
       refine done_ (by kernel_rfl) ?_
       try go_wp2
       go_roundg k1
       case measure => have := HK1.out; omega
       case rel => exact ⟨(wrap64 (x5_1 + 1)), rsz, H', ⟨by have := HK1.out; omega⟩, ⟨blkz⟩, ⟨bel⟩⟩
      ·
       replace c11 := Bool.eq_false_iff.mpr c11
       subst c11
       rw [if_neg (show ¬ (false = true) by decide)] at H
       obtain rfl := Option.some.inj H
       try go_wp2
       have n0_ := Aside0.mk (blk_drew BK244.out)
       have n1_ := Aside0.mk (below_drew1 HB.out)
       clear BK244
       clear HB
       have BK244 := n0_
       have HB := n1_
       clear n0_ n1_
       have p246 : 0 ≤ (x5_1 : Int) := of_decide_eq_true asz
       have q246 : x5_1 < (l1.length : Int) := of_decide_eq_true asz
       obtain ⟨ad246, A246_0, c246_0, e246, hx246_0, hl246_0, hi246_0⟩ := at_L1 HR1.out x5_1 p246 q246
       have hw246_0 := hx246_0
       cases e246
       replace hx246_0 := (HB.out.cell (World.block_lt_of_cell? w _ hx246_0)).trans hx246_0
       have HR246_0 := Aside0.mk hi246_0
       have HC246_0 := Aside0.mk hl246_0
       clear hi246_0 hl246_0
       replace p246 := eq_true p246
       replace q246 := eq_true q246
       refine start_ (n := 7) (S := fun w' => w'.cell? ⟨gb244, 0, none⟩ = some (.int .i64 a0_0) ∧ w'.cell? ⟨gb244, 1, none⟩ = some (.slice A0_1 l0_1.length c0_1) ∧ w'.cell? (ad246.add (x5_1).toNat) = some (.slice A246_0 (rd_L1 l1 x5_1).length c246_0)) (ds := []) #[false, false, false, false, false, false, false] (by kernel_rfl) rfl rfl ⟨(blk_cell BK244.out 0).trans rfl, (blk_cell BK244.out 1).trans rfl, ((HB.out.cell (World.block_lt_of_cell? w _ hw246_0)).trans hw246_0)⟩ (fun hHeld => ?_)
       generalize wr.drew = w14 at BK244 HB HR246_0 hx246_0 hHeld ⊢
       refine pst (i := 1) (N := some 16) (bz 7 2) (by kernel_rfl) ?_
       refine pst (i := 2) (N := some 17) (bz 7 6) (by kernel_rfl) ?_
       refine pst (i := 3) (N := some 18) (bz 7 14) (by kernel_rfl) ?_
       refine tst3 (i := 0) (N := some 15) (bz 7 15) (by kernel_rfl) hHeld ?_
       refine tst3 (i := 4) (N := some 19) (bz 7 31) (by kernel_rfl) hHeld ?_
       refine one_ (i := 5) (N := some 20) #[true, true, true, true, true, true, false] rfl rfl (by kernel_rfl) (by decide) (fun K hK => ?_)
       refine goes_ Try.func13 (by kernel_rfl) rfl #[.agg #[.int .i64 a0_0, .slice A0_1 l0_1.length c0_1], .slice A246_0 (rd_L1 l1 x5_1).length c246_0] (by rfl) rfl rfl mapz ?_
       with_reducible refine (dropperref06_Keys.calls k1 a0_0 _ _ l0_1 _ _ (rd_L1 l1 x5_1) false _ ?side1 ?side2 ?side3 ?side4 A10.out).mono ?_
       (case side1 => exact cbz HR0_1)
       (case side2 => exact HC0_1.out)
       (case side3 => exact cbz HR246_0)
       (case side4 => exact HC246_0.out)
       rintro e w15 ⟨rfl, hb⟩
       refine ⟨_, rfl, ?_⟩
       have n0_ := Aside0.mk (blk_below (g := gb244) blkz hb)
       have n1_ := Aside0.mk (below_step bel hb)
       clear BK244
       clear HB
       have BK244 := n0_
       have HB := n1_
       clear n0_ n1_
       (try clear hb)
       (try clear hb2)
       (try clear hk)
       (try clear hi)
       refine hK.out _ _ ⟨(blk_cell BK244.out 0).trans rfl, (blk_cell BK244.out 1).trans rfl, ((HB.out.cell (World.block_lt_of_cell? w _ hw246_0)).trans hw246_0)⟩ (fun hHeld => ?_)
       clear hK K
       refine norm_ (a' := ?_) ?_ ?_
       rotate_left
       ·
        show Act.put _ (some 20) _ = _
        simp only [Act.put, List.setIfInBounds_toArray, List.set_cons_zero, List.set_cons_succ, i64_w, i32_w]
        rfl
       refine pst (i := 6) (N := some 21) (bz 7 127) (by kernel_rfl) ?_
       refine done_ (by kernel_rfl) ?_
       try go_wp2
       go_ret
       exact ⟨ezz, bel⟩
     ·
      rw [if_neg c9] at H
      exact absurd H (by simp)
    ·
     rw [if_neg c8] at H
     have c8b0 : decide (x5_1 < (l1.length : Int)) = false := decide_eq_false c8
     clear c8
     obtain rfl := Option.some.inj H
     go_wp2
     go_ret
     exact ⟨ezz, bel⟩
 ·
  replace c4 := Bool.eq_false_iff.mpr c4
  subst c4
  rw [if_neg (show ¬ (false = true) by decide)] at H
  obtain rfl := Option.some.inj H
  go_enter Try.func72, Try.ntmps72
  go_wp2_with (first | ((with_reducible refine gate_dst (N := 2) rfl ?_); refine box_event ?hg (N := 2) ?hd (cs := #[.int .i64 a0_0, .slice A0_1 l0_1.length c0_1]) (t := 24) ?hr ?_; (case hd => rfl); (case hg => rfl); (case hr => first | (go_simp; done) | (go_simp; rfl)); intro gb244 hg w16 hbox hb; have BK244 := Aside0.mk (hbox); have GW244 := bsz (w := w) hg; have GE244 := GW244; replace HB := Aside0.mk (below_step bel hb); clear hb hbox hg; obtain ⟨hcz17_0, hcz17_1⟩ := bc2 BK244.out) | ((with_reducible refine gate_callee (f := 12) rfl ?_); refine goesL_ (some 7) rfl rfl Try.func12 (by kernel_rfl) rfl #[.agg #[.int .i64 a0_0, .slice A0_1 l0_1.length c0_1]] rfl mapz ?_; (with_reducible refine (dropperref06_Valid.calls k a0_0 _ _ l0_1 false _ (cbz HR0_1) HC0_1.out A3.out).mono ?_); rintro e w18 ⟨rfl, hb⟩; refine ⟨_, rfl, ?_⟩; replace BK244 := Aside0.mk (blk_below (g := gb244) blkz hb); replace HB := Aside0.mk (below_step bel hb); clear hb))
  go_ret
  exact ⟨ezz, bel⟩

/-! ### dropperref06_after: function 77 -/
def dropperref06_after.l0 : Nat → List Int → List Int → Int → List Int → List Int → Option (List Int × Bool)
 | 0, _, _, _, _, _ => none
 | k + 1, x1, x6, x7, x290000, x290001 => if x7 < (x1.length : Int) then (if 0 ≤ x7 then (if x7 < (x290000.length : Int) then (if (wrap64 ((rd x1 x7) - (rd x290000 x7))) < 0 then (some (([] : List Int), false)) else (if x7 < (x290001.length : Int) then (if (wrap64 ((wrap64 ((rd x1 x7) - (rd x290000 x7))) + (rd x290001 x7))) > 100 then (some (([] : List Int), false)) else (if x6.length < 17592186044416 then (dropperref06_after.l0 k x1 (x6 ++ [wrap64 ((wrap64 ((rd x1 x7) - (rd x290000 x7))) + (rd x290001 x7))]) (wrap64 (x7 + 1)) x290000 x290001) else (none))) else (none))) else (none)) else (none)) else (some (x6, true))
def dropperref06_after.f (k : Nat) (l0_0 : List Int) (l0_1 : List Int) (l1 : List Int) : Option (List Int × Bool) := dropperref06_after.l0 k l1 ([] : List Int) 0 l0_0 l0_1
set_option maxHeartbeats 8000000 in
set_option maxRecDepth 100000 in
theorem dropperref06_after.calls (k : Nat) (A0_0 : Option Addr) (c0_0 : Nat) (l0_0 : List Int) (A0_1 : Option Addr) (c0_1 : Nat) (l0_1 : List Int) (A1 : Option Addr) (c1 : Nat) (l1 : List Int) (r1 : List Int) (r2 : Bool) (w : World) (hr0_0 : Kd.C (Kd.int .i64) w A0_0 l0_0.length l0_0) (hc0_0 : l0_0.length ≤ c0_0) (hr0_1 : Kd.C (Kd.int .i64) w A0_1 l0_1.length l0_1) (hc0_1 : l0_1.length ≤ c0_1) (hr1 : Kd.C (Kd.int .i64) w A1 l1.length l1) (hc1 : l1.length ≤ c1) (h : dropperref06_after.f k l0_0 l0_1 l1 = some (r1, r2)) :
  Calls Try.prog 77 #[.agg #[.slice A0_0 l0_0.length c0_0, .slice A0_1 l0_1.length c0_1], .slice A1 l1.length c1] w fun e w' => ∃ v0_ : Value, e = .returned (.tuple #[v0_, .bool r2]) ∧ Kd.R (Kd.int .i64) 3 w' w.heap.size (fun _ => True) v0_ r1 ∧ Below w.heap.size w w' := by
 have hu64 := Try.underlying64
 have HR0_0 := Aside0.mk hr0_0
 have HC0_0 := Aside0.mk hc0_0
 clear hr0_0 hc0_0
 have HR0_1 := Aside0.mk hr0_1
 have HC0_1 := Aside0.mk hc0_1
 clear hr0_1 hc0_1
 have HR1 := Aside0.mk hr1
 have HC1 := Aside0.mk hc1
 clear hr1 hc1
 have HB := Aside0.mk (Below.refl w.heap.size w)
 have H : (dropperref06_after.l0 k l1 ([] : List Int) 0 l0_0 l0_1) = some (r1, r2) := h
 clear h
 have H' := Aside0.mk H
 clear H
 go_enter Try.func77, Try.ntmps77
 go_wp2_with (first | ((with_reducible refine gate_dst (N := 2) rfl ?_); refine box_event ?hg (N := 2) ?hd (cs := #[.slice A0_0 l0_0.length c0_0, .slice A0_1 l0_1.length c0_1]) (t := 64) ?hr ?_; (case hd => rfl); (case hg => rfl); (case hr => first | (go_simp; done) | (go_simp; rfl)); intro gb289 hg w3 hbox hb; have BK289 := Aside0.mk (hbox); have GW289 := bsz (w := w) hg; have GE289 := GW289; replace HB := Aside0.mk (below_step bel hb); clear hb hbox hg))
 repeat (go_quiet (first | ((with_reducible refine gate_dst (N := 2) rfl ?_); refine box_event ?hg (N := 2) ?hd (cs := #[.slice A0_0 l0_0.length c0_0, .slice A0_1 l0_1.length c0_1]) (t := 64) ?hr ?_; (case hd => rfl); (case hg => rfl); (case hr => first | (go_simp; done) | (go_simp; rfl)); intro gb289 hg w3 hbox hb; have BK289 := Aside0.mk (hbox); have GW289 := bsz (w := w) hg; have GE289 := GW289; replace HB := Aside0.mk (below_step bel hb); clear hb hbox hg)); try go_wp2_with (first | ((with_reducible refine gate_dst (N := 2) rfl ?_); refine box_event ?hg (N := 2) ?hd (cs := #[.slice A0_0 l0_0.length c0_0, .slice A0_1 l0_1.length c0_1]) (t := 64) ?hr ?_; (case hd => rfl); (case hg => rfl); (case hr => first | (go_simp; done) | (go_simp; rfl)); intro gb289 hg w3 hbox hb; have BK289 := Aside0.mk (hbox); have GW289 := bsz (w := w) hg; have GE289 := GW289; replace HB := Aside0.mk (below_step bel hb); clear hb hbox hg)))
 go_loopg [6, 7] k (fun kq v6 v7 w' => ∃ (x6_1 : List Int) (x7_1 : Int), v7 = .int .i64 x7_1 ∧ Aside0 (dropperref06_after.l0 kq l1 x6_1 x7_1 l0_0 l0_1 = some (r1, r2)) ∧ Aside0 (kq ≤ k) ∧ Aside0 (Kd.R (Kd.int .i64) 3 w' w.heap.size (fun _ => True) v6 x6_1) ∧ Aside0 (w'.heap[gb289]? = some (.cells #[(.slice A0_0 l0_0.length c0_0), (.slice A0_1 l0_1.length c0_1)] 64 (0, 0))) ∧ Aside0 (Below w.heap.size w w'))
 case atStart => exact ⟨(([] : List Int)), (0), rsz, H', ⟨Nat.le_refl _⟩, ⟨by first | exact Kd.R_nil _ _ _ _ _ | exact Kd.N_nil _ _ _ _ _ | exact Kd.V_nil _ _ _ _ _ | exact Kd.Q_nil _ _ _ _ _ | exact Kd.S_nil _ _ _ _ _⟩, ⟨blkz⟩, ⟨bel⟩⟩
 case round =>
  clear H'
  (try clear c1); (try clear p2)
  obtain ⟨x6_1, x7_1, rfl, HA, HK1, HO_6, BK289, HB⟩ := hrel
  cases gk with
  | zero => exact absurd HA.out (by simp [dropperref06_after.l0])
  | succ k1 =>
   have H := HA.out
   clear HA
   simp only [dropperref06_after.l0] at H
   by_cases c4 : x7_1 < (l1.length : Int)
   ·
    rw [if_pos c4] at H
    have c4b0 : decide (x7_1 < (l1.length : Int)) = true := decide_eq_true c4
    clear c4
    by_cases c5 : 0 ≤ x7_1
    ·
     rw [if_pos c5] at H
     have c5b0 : decide (0 ≤ x7_1) = true := decide_eq_true c5
     clear c5
     by_cases c6 : x7_1 < (l0_0.length : Int)
     ·
      rw [if_pos c6] at H
      have c6b0 : decide (x7_1 < (l0_0.length : Int)) = true := decide_eq_true c6
      clear c6
      by_cases c7 : (wrap64 ((rd l1 x7_1) - (rd l0_0 x7_1))) < 0
      ·
       rw [if_pos c7] at H
       have c7b0 : decide ((wrap64 ((rd l1 x7_1) - (rd l0_0 x7_1))) < 0) = true := decide_eq_true c7
       clear c7
       simp only [Option.some.injEq, Prod.mk.injEq] at H
       obtain ⟨rfl, rfl⟩ := H
       have p290 : 0 ≤ (x7_1 : Int) := of_decide_eq_true asz
       have q290 : x7_1 < (l1.length : Int) := of_decide_eq_true asz
       obtain ⟨ad290, e290, hx290_0⟩ := Kd.at_int HR1.out x7_1 p290 q290
       cases e290
       replace hx290_0 := (HB.out.cell (World.block_lt_of_cell? w _ hx290_0)).trans hx290_0
       replace p290 := eq_true p290
       replace q290 := eq_true q290
       obtain ⟨hcz8_0, hcz8_1⟩ := bc2 BK289.out
       obtain ⟨hfz8_0, hfz8_1⟩ := bf2 BK289.out
       have p291 : 0 ≤ (x7_1 : Int) := of_decide_eq_true asz
       have q291 : x7_1 < (l0_0.length : Int) := of_decide_eq_true asz
       obtain ⟨ad291, e291, hx291_0⟩ := Kd.at_int HR0_0.out x7_1 p291 q291
       cases e291
       replace hx291_0 := (HB.out.cell (World.block_lt_of_cell? w _ hx291_0)).trans hx291_0
       replace p291 := eq_true p291
       replace q291 := eq_true q291
       go_wp2
       repeat (go_quiet (fail); try go_wp2)
       go_ret2
       exact ⟨_, ezz, by first | exact Kd.R_nil _ _ _ _ _ | exact Kd.N_nil _ _ _ _ _ | exact Kd.V_nil _ _ _ _ _ | exact Kd.Q_nil _ _ _ _ _ | exact Kd.S_nil _ _ _ _ _, bel⟩
      ·
       rw [if_neg c7] at H
       have c7b0 : decide ((wrap64 ((rd l1 x7_1) - (rd l0_0 x7_1))) < 0) = false := decide_eq_false c7
       clear c7
       by_cases c9 : x7_1 < (l0_1.length : Int)
       ·
        rw [if_pos c9] at H
        have c9b0 : decide (x7_1 < (l0_1.length : Int)) = true := decide_eq_true c9
        clear c9
        by_cases c10 : (wrap64 ((wrap64 ((rd l1 x7_1) - (rd l0_0 x7_1))) + (rd l0_1 x7_1))) > 100
        ·
         rw [if_pos c10] at H
         have c10b0 : decide (100 < (wrap64 ((wrap64 ((rd l1 x7_1) - (rd l0_0 x7_1))) + (rd l0_1 x7_1)))) = true := decide_eq_true c10
         clear c10
         simp only [Option.some.injEq, Prod.mk.injEq] at H
         obtain ⟨rfl, rfl⟩ := H
         have p290 : 0 ≤ (x7_1 : Int) := of_decide_eq_true asz
         have q290 : x7_1 < (l1.length : Int) := of_decide_eq_true asz
         obtain ⟨ad290, e290, hx290_0⟩ := Kd.at_int HR1.out x7_1 p290 q290
         cases e290
         replace hx290_0 := (HB.out.cell (World.block_lt_of_cell? w _ hx290_0)).trans hx290_0
         replace p290 := eq_true p290
         replace q290 := eq_true q290
         obtain ⟨hcz11_0, hcz11_1⟩ := bc2 BK289.out
         obtain ⟨hfz11_0, hfz11_1⟩ := bf2 BK289.out
         have p291 : 0 ≤ (x7_1 : Int) := of_decide_eq_true asz
         have q291 : x7_1 < (l0_0.length : Int) := of_decide_eq_true asz
         obtain ⟨ad291, e291, hx291_0⟩ := Kd.at_int HR0_0.out x7_1 p291 q291
         cases e291
         replace hx291_0 := (HB.out.cell (World.block_lt_of_cell? w _ hx291_0)).trans hx291_0
         replace p291 := eq_true p291
         replace q291 := eq_true q291
         have p292 : 0 ≤ (x7_1 : Int) := of_decide_eq_true asz
         have q292 : x7_1 < (l0_1.length : Int) := of_decide_eq_true asz
         obtain ⟨ad292, e292, hx292_0⟩ := Kd.at_int HR0_1.out x7_1 p292 q292
         cases e292
         replace hx292_0 := (HB.out.cell (World.block_lt_of_cell? w _ hx292_0)).trans hx292_0
         replace p292 := eq_true p292
         replace q292 := eq_true q292
         go_wp2
         repeat (go_quiet (fail); try go_wp2)
         go_ret2
         exact ⟨_, ezz, by first | exact Kd.R_nil _ _ _ _ _ | exact Kd.N_nil _ _ _ _ _ | exact Kd.V_nil _ _ _ _ _ | exact Kd.Q_nil _ _ _ _ _ | exact Kd.S_nil _ _ _ _ _, bel⟩
        ·
         rw [if_neg c10] at H
         have c10b0 : decide (100 < (wrap64 ((wrap64 ((rd l1 x7_1) - (rd l0_0 x7_1))) + (rd l0_1 x7_1)))) = false := decide_eq_false c10
         clear c10
         by_cases c12 : x6_1.length < 17592186044416
         ·
          rw [if_pos c12] at H
          have LMc12 := Aside0.mk c12
          clear c12
          obtain ⟨y294, hy294⟩ : ∃ y_ : List Int, y_ = (x6_1 ++ [wrap64 ((wrap64 ((rd l1 x7_1) - (rd l0_0 x7_1))) + (rd l0_1 x7_1))]) := ⟨_, rfl⟩
          replace H : (dropperref06_after.l0 k1 l1 y294 (wrap64 (x7_1 + 1)) l0_0 l0_1) = some (r1, r2) := by first | (rw [hy294]; with_reducible exact H) | (have H2_ := (Option.bind_some _ _).symm.trans H; rw [hy294]; with_reducible exact H2_) | (have H2_ := (Option.bind_some _ _).symm.trans H; with_reducible exact H2_) | with_reducible exact H | (rw [hy294]; exact H) | exact H
          have Ny294 := Aside0.mk hy294
          clear hy294
          have H' := Aside0.mk H
          clear H
          have p290 : 0 ≤ (x7_1 : Int) := of_decide_eq_true asz
          have q290 : x7_1 < (l1.length : Int) := of_decide_eq_true asz
          obtain ⟨ad290, e290, hx290_0⟩ := Kd.at_int HR1.out x7_1 p290 q290
          cases e290
          replace hx290_0 := (HB.out.cell (World.block_lt_of_cell? w _ hx290_0)).trans hx290_0
          replace p290 := eq_true p290
          replace q290 := eq_true q290
          obtain ⟨hcz13_0, hcz13_1⟩ := bc2 BK289.out
          obtain ⟨hfz13_0, hfz13_1⟩ := bf2 BK289.out
          have p291 : 0 ≤ (x7_1 : Int) := of_decide_eq_true asz
          have q291 : x7_1 < (l0_0.length : Int) := of_decide_eq_true asz
          obtain ⟨ad291, e291, hx291_0⟩ := Kd.at_int HR0_0.out x7_1 p291 q291
          cases e291
          replace hx291_0 := (HB.out.cell (World.block_lt_of_cell? w _ hx291_0)).trans hx291_0
          replace p291 := eq_true p291
          replace q291 := eq_true q291
          have p292 : 0 ≤ (x7_1 : Int) := of_decide_eq_true asz
          have q292 : x7_1 < (l0_1.length : Int) := of_decide_eq_true asz
          obtain ⟨ad292, e292, hx292_0⟩ := Kd.at_int HR0_1.out x7_1 p292 q292
          cases e292
          replace hx292_0 := (HB.out.cell (World.block_lt_of_cell? w _ hx292_0)).trans hx292_0
          replace p292 := eq_true p292
          replace q292 := eq_true q292
          have p293 : 0 ≤ (x7_1 : Int) := of_decide_eq_true asz
          have q293 : x7_1 < (l0_1.length : Int) := of_decide_eq_true asz
          obtain ⟨ad293, e293, hx293_0⟩ := Kd.at_int HR0_1.out x7_1 p293 q293
          obtain rfl : ad292 = ad293 := (by injection e293)
          replace hx293_0 := (HB.out.cell (World.block_lt_of_cell? w _ hx293_0)).trans hx293_0
          replace p293 := eq_true p293
          replace q293 := eq_true q293
          go_wp2_with (first | ((with_reducible refine gate_builtin (b := .append) (xs := #[.tmp 37, .tmp 45]) rfl ?_); at_builtin; refine Kd.R_append (Kd.int .i64) (w0 := w) w.heap.size rfl (.tmp 37) (.tmp 45) 25 3 (.int .i64 0) 8 rfl Try.underlying25 info3 rfl (by decide) (by omega) u6 x6_1 (wrap64 ((wrap64 ((rd l1 x7_1) - (rd l0_0 x7_1))) + (rd l0_1 x7_1))) [.int .i64 (wrap64 ((wrap64 ((rd l1 x7_1) - (rd l0_0 x7_1))) + (rd l0_1 x7_1)))] (fun _ => True) (fun _ => False) rfl rfl ?aP (fun _ hk => hk.elim) ?aF ?aO ?aB ?aS ?aL ?_; (case aP => exact rfl); (case aB => exact bel); (case aF => exact (fun _ _ => trivial)); (case aO => exact (ownx HO_6)); (case aS => exact (below_size bel)); (case aL => have := LMc12.out; omega); intro v295 w14 ho hb hg hat; rw [← Ny294.out] at ho; have n0_ := Aside0.mk (blk_grown (g := gb289) (o := .cells #[.slice (some ad291) l0_0.length c0_0, .slice (some ad292) l0_1.length c0_1] 64 (0, 0)) blkz hg (Kd.R_ne HO_6.out BK289.out (by decide))); have n1_ := Aside0.mk (hb); have n2_ := Aside0.mk (ho); clear BK289; clear HB; clear HO_6; have BK289 := n0_; have HB := n1_; have HO296 := n2_; clear n0_ n1_ n2_; clear ho hb hg hat))
          repeat (go_quiet (first | ((with_reducible refine gate_builtin (b := .append) (xs := #[.tmp 37, .tmp 45]) rfl ?_); at_builtin; refine Kd.R_append (Kd.int .i64) (w0 := w) w.heap.size rfl (.tmp 37) (.tmp 45) 25 3 (.int .i64 0) 8 rfl Try.underlying25 info3 rfl (by decide) (by omega) u6 x6_1 (wrap64 ((wrap64 ((rd l1 x7_1) - (rd l0_0 x7_1))) + (rd l0_1 x7_1))) [.int .i64 (wrap64 ((wrap64 ((rd l1 x7_1) - (rd l0_0 x7_1))) + (rd l0_1 x7_1)))] (fun _ => True) (fun _ => False) rfl rfl ?aP (fun _ hk => hk.elim) ?aF ?aO ?aB ?aS ?aL ?_; (case aP => exact rfl); (case aB => exact bel); (case aF => exact (fun _ _ => trivial)); (case aO => exact (ownx HO_6)); (case aS => exact (below_size bel)); (case aL => have := LMc12.out; omega); intro v295 w14 ho hb hg hat; rw [← Ny294.out] at ho; have n0_ := Aside0.mk (blk_grown (g := gb289) (o := .cells #[.slice (some ad291) l0_0.length c0_0, .slice (some ad292) l0_1.length c0_1] 64 (0, 0)) blkz hg (Kd.R_ne HO_6.out BK289.out (by decide))); have n1_ := Aside0.mk (hb); have n2_ := Aside0.mk (ho); clear BK289; clear HB; clear HO_6; have BK289 := n0_; have HB := n1_; have HO296 := n2_; clear n0_ n1_ n2_; clear ho hb hg hat)); try go_wp2_with (first | ((with_reducible refine gate_builtin (b := .append) (xs := #[.tmp 37, .tmp 45]) rfl ?_); at_builtin; refine Kd.R_append (Kd.int .i64) (w0 := w) w.heap.size rfl (.tmp 37) (.tmp 45) 25 3 (.int .i64 0) 8 rfl Try.underlying25 info3 rfl (by decide) (by omega) u6 x6_1 (wrap64 ((wrap64 ((rd l1 x7_1) - (rd l0_0 x7_1))) + (rd l0_1 x7_1))) [.int .i64 (wrap64 ((wrap64 ((rd l1 x7_1) - (rd l0_0 x7_1))) + (rd l0_1 x7_1)))] (fun _ => True) (fun _ => False) rfl rfl ?aP (fun _ hk => hk.elim) ?aF ?aO ?aB ?aS ?aL ?_; (case aP => exact rfl); (case aB => exact bel); (case aF => exact (fun _ _ => trivial)); (case aO => exact (ownx HO_6)); (case aS => exact (below_size bel)); (case aL => have := LMc12.out; omega); intro v295 w14 ho hb hg hat; rw [← Ny294.out] at ho; have n0_ := Aside0.mk (blk_grown (g := gb289) (o := .cells #[.slice (some ad291) l0_0.length c0_0, .slice (some ad292) l0_1.length c0_1] 64 (0, 0)) blkz hg (Kd.R_ne HO_6.out BK289.out (by decide))); have n1_ := Aside0.mk (hb); have n2_ := Aside0.mk (ho); clear BK289; clear HB; clear HO_6; have BK289 := n0_; have HB := n1_; have HO296 := n2_; clear n0_ n1_ n2_; clear ho hb hg hat)))
          go_roundg k1
          case measure => have := HK1.out; omega
          case rel => exact ⟨(y294), (wrap64 (x7_1 + 1)), rsz, H', ⟨by have := HK1.out; omega⟩, ⟨by (with_reducible repeat (first | apply Kd.R_alloc | apply Kd.R_drewN | apply Kd.R_drew)); exact HO296.out⟩, ⟨blkz⟩, ⟨bel⟩⟩
         ·
          rw [if_neg c12] at H
          exact absurd H (by simp)
       ·
        rw [if_neg c9] at H
        exact absurd H (by simp)
     ·
      rw [if_neg c6] at H
      exact absurd H (by simp)
    ·
     rw [if_neg c5] at H
     exact absurd H (by simp)
   ·
    rw [if_neg c4] at H
    have c4b0 : decide (x7_1 < (l1.length : Int)) = false := decide_eq_false c4
    clear c4
    simp only [Option.some.injEq, Prod.mk.injEq] at H
    obtain ⟨rfl, rfl⟩ := H
    go_wp2
    repeat (go_quiet (fail); try go_wp2)
    go_ret2
    exact ⟨_, ezz, by (with_reducible repeat (first | apply Kd.R_alloc | apply Kd.R_drewN | apply Kd.R_drew)); exact HO_6.out, bel⟩

/-! ### dropperref06_Can: function 40 -/
def dropperref06_Can.l0 : Nat → List Int → List Int → Int → Int → List (S64) → Option (List Int × Int)
 | 0, _, _, _, _, _ => none
 | k + 1, x1, x7, x8, x301000, x301001 => if x8 < (x301001.length : Int) then (if 0 ≤ x8 then ((dropperref06_after.f k ((rd_T64 x301001 x8).f0) ((rd_T64 x301001 x8).f1) x1).bind fun bt306 => (if bt306.2 = true then (if x7.length < 17592186044416 then (dropperref06_Can.l0 k x1 (x7 ++ [x8]) (wrap64 (x8 + 1)) x301000 x301001) else (none)) else (dropperref06_Can.l0 k x1 x7 (wrap64 (x8 + 1)) x301000 x301001))) else (none)) else (some (x7, 0))
def dropperref06_Can.f (k : Nat) (a0_0 : Int) (l0_1 : List (S64)) (l1 : List Int) : Option (List Int × Int) := (dropperref06_asked.f k a0_0 l0_1 (([l1] : List (List Int)))).bind fun t304 => (if t304 = 0 then (dropperref06_Can.l0 k l1 ([] : List Int) 0 a0_0 l0_1) else (some (([] : List Int), t304)))
set_option maxHeartbeats 8000000 in
set_option maxRecDepth 100000 in
theorem dropperref06_Can.calls (k : Nat) (a0_0 : Int) (A0_1 : Option Addr) (c0_1 : Nat) (l0_1 : List (S64)) (P1_ : Nat → Prop) (A1 : Option Addr) (c1 : Nat) (l1 : List Int) (r1 : List Int) (r2 : Int) (w : World) (hr0_1 : Kd.C k64 w A0_1 l0_1.length l0_1) (hc0_1 : l0_1.length ≤ c0_1) (hs1 : Kd.V (Kd.int .i64) 3 w w.heap.size (fun k_ => P1_ k_) (.slice A1 l1.length c1) l1) (h : dropperref06_Can.f k a0_0 l0_1 l1 = some (r1, r2)) :
  Calls Try.prog 40 #[.agg #[.int .i64 a0_0, .slice A0_1 l0_1.length c0_1], .slice A1 l1.length c1] w fun e w' => ∃ v0_ : Value, e = .returned (.tuple #[v0_, .int .i64 r2]) ∧ Kd.R (Kd.int .i64) 3 w' w.heap.size (fun k_ => (w.heap.size ≤ k_)) v0_ r1 ∧ Below w.heap.size w w' := by
 have hu24 := Try.underlying24
 have hu64 := Try.underlying64
 have HR0_1 := Aside0.mk hr0_1
 have HC0_1 := Aside0.mk hc0_1
 clear hr0_1 hc0_1
 have HO1 := Aside0.mk (show Kd.V (Kd.int .i64) 3 w w.heap.size (fun k_ => (P1_ k_ ∨ w.heap.size ≤ k_)) (.slice A1 l1.length c1) l1 from Kd.V_mono hs1 (fun k_ hk => .inl hk))
 have HB := Aside0.mk (Below.refl w.heap.size w)
 have H : ((dropperref06_asked.f k a0_0 l0_1 (([l1] : List (List Int)))).bind fun t304 => (if t304 = 0 then (dropperref06_Can.l0 k l1 ([] : List Int) 0 a0_0 l0_1) else (some (([] : List Int), t304)))) = some (r1, r2) := h
 clear h
 obtain ⟨y301, hy301⟩ : ∃ y_ : List (List Int), y_ = (([l1] : List (List Int))) := ⟨_, rfl⟩
 replace H : ((dropperref06_asked.f k a0_0 l0_1 y301).bind fun t304 => (if t304 = 0 then (dropperref06_Can.l0 k l1 ([] : List Int) 0 a0_0 l0_1) else (some (([] : List Int), t304)))) = some (r1, r2) := by first | (rw [hy301]; with_reducible exact H) | (have H2_ := (Option.bind_some _ _).symm.trans H; rw [hy301]; with_reducible exact H2_) | (have H2_ := (Option.bind_some _ _).symm.trans H; with_reducible exact H2_) | with_reducible exact H | (rw [hy301]; exact H) | exact H
 have Ny301 := Aside0.mk hy301
 clear hy301
 replace H := Option.bind_eq_some_iff.mp H
 obtain ⟨t304, A30, H⟩ := H
 try dsimp only at H
 have A3 := Aside0.mk A30
 clear A30
 by_cases c4 : t304 = 0
 ·
  rw [if_pos c4] at H
  have c4b0 : (t304 == 0) = true := beq_iff_eq.mpr c4
  have c4b1 : (t304 != 0) = false := bne_eq_false_iff_eq.mpr c4
  clear c4
  have H' := Aside0.mk H
  clear H
  go_enter Try.func40, Try.ntmps40
  go_wp2_with (first | ((with_reducible refine gate_dst (N := 2) rfl ?_); refine box_event ?hg (N := 2) ?hd (cs := #[.int .i64 a0_0, .slice A0_1 l0_1.length c0_1]) (t := 24) ?hr ?_; (case hd => rfl); (case hg => rfl); (case hr => first | (go_simp; done) | (go_simp; rfl)); intro gb300 hg w5 hbox hb; have BK300 := Aside0.mk (hbox); have GW300 := bsz (w := w) hg; have GE300 := GW300; replace HO1 := Aside0.mk (Kd.V_below (Kd.V_elderB (by (with_reducible repeat (first | apply Kd.V_alloc | apply Kd.V_drewN | apply Kd.V_drew)); exact HO1.out) gb300 (Nat.le_of_eq hg.symm)) hb); replace HB := Aside0.mk (below_step bel hb); clear hb hbox hg; obtain ⟨hcz6_0, hcz6_1⟩ := bc2 BK300.out) | ((with_reducible refine gate_dst (N := 13) rfl ?_); refine Kd.N_lit (Kd.slice 3 (Kd.int .i64)) _ 25 ?hg (N' := 13) ?hd (xs := ([l1] : List (List Int))) (inner := [.slice A1 l1.length c1]) (ok := (fun k_ => (P1_ k_ ∨ w.heap.size ≤ k_) ∧ k_ ≠ gb300)) (okp := (fun k_ => (P1_ k_ ∨ w.heap.size ≤ k_) ∧ k_ ≠ gb300)) ?hr ?hp (fun _ hk => hk) ((show ∀ k_, w5.heap.size ≤ k_ → (fun k_ => (P1_ k_ ∨ w.heap.size ≤ k_) ∧ k_ ≠ gb300) k_ from fun k_ hk => ⟨(.inr (Nat.le_trans (below_size bel) hk)), Kd.freshB (g := gb300) (o := .cells #[.int .i64 a0_0, .slice A0_1 l0_1.length c0_1] 24 (0, 0)) blkz k_ hk⟩) _ (Nat.le_refl _)) (Below.refl _ _) (Nat.le_refl _) (by simp) ?_; (case hd => rfl); (case hg => rfl); (case hr => first | (go_simp; done) | (go_simp; rfl)); (case hp => exact (Reps.one (show Kd.FK (Kd.slice 3 (Kd.int .i64)) _ _ l1 [.slice A1 l1.length c1] from (Kd.FK_slice_mk (Kd.V_reads' (Kd.V_mono (ok' := (fun k_ => (P1_ k_ ∨ w.heap.size ≤ k_) ∧ k_ ≠ gb300)) (HO1.out) (fun k_ hk => ⟨hk.1, hk.2⟩))).2.1 (Kd.V_F (Kd.V_mono (ok' := (fun k_ => (P1_ k_ ∨ w.heap.size ≤ k_) ∧ k_ ≠ gb300)) (HO1.out) (fun k_ hk => ⟨hk.1, hk.2⟩))))) (Reps.none _ _))); intro v302 w7 ho8 hb hg_ hnew_; clear hg_ hnew_; (first | rw [← Ny301.out] at ho8 | (simp only [Int.reduceToNat] at ho8; rw [← Ny301.out] at ho8)); have HO303 := Aside0.mk (Kd.N_lower ho8 (below_size bel)); replace HO1 := Aside0.mk (Kd.V_elder' (by (with_reducible repeat (first | apply Kd.V_alloc | apply Kd.V_drewN | apply Kd.V_drew)); exact HO1.out) (Kd.N_base ho8) hb); replace BK300 := Aside0.mk (blk_below (g := gb300) blkz hb); replace HB := Aside0.mk (below_step bel hb); clear hb ho8; obtain ⟨Ao9, co9, eo9⟩ := Kd.N_slice HO303.out; subst eo9) | ((with_reducible refine gate_callee (f := 72) rfl ?_); refine goesL_ (some 14) rfl rfl Try.func72 (by kernel_rfl) rfl #[.agg #[.int .i64 a0_0, .slice A0_1 l0_1.length c0_1], .slice Ao9 y301.length co9] rfl mapz ?_; (with_reducible refine (dropperref06_asked.calls k a0_0 _ _ l0_1 _ _ y301 t304 _ (cbz HR0_1) HC0_1.out ?side3 ?side4 A3.out).mono ?_); (case side3 => repeat (first | exact (Kd.N_reads' HO303.out).2.2 | (with_reducible refine Kd.C_alloc ?_ _) | (with_reducible refine Kd.C_drewN ?_ _) | (with_reducible refine Kd.C_drew ?_))); (case side4 => exact (Kd.N_reads' HO303.out).2.1); rintro e w10 ⟨rfl, hb⟩; refine ⟨_, rfl, ?_⟩; replace HO1 := Aside0.mk (Kd.V_below (by (with_reducible repeat (first | apply Kd.V_alloc | apply Kd.V_drewN | apply Kd.V_drew)); exact HO1.out) hb); replace HO303 := Aside0.mk (Kd.N_below (by (with_reducible repeat (first | apply Kd.N_alloc | apply Kd.N_drewN | apply Kd.N_drew)); exact HO303.out) hb); replace BK300 := Aside0.mk (blk_below (g := gb300) blkz hb); replace HB := Aside0.mk (below_step bel hb); clear hb))
  go_loopg [7, 8] k (fun kq v7 v8 w' => ∃ (x7_1 : List Int) (x8_1 : Int), v8 = .int .i64 x8_1 ∧ Aside0 (dropperref06_Can.l0 kq l1 x7_1 x8_1 a0_0 l0_1 = some (r1, r2)) ∧ Aside0 (kq ≤ k) ∧ Aside0 (Kd.V (Kd.int .i64) 3 w' w.heap.size (fun k_ => (P1_ k_ ∨ w.heap.size ≤ k_) ∧ some k_ ≠ (v7 : Value).ownBlock ∧ k_ ≠ gb300) (.slice A1 l1.length c1) l1) ∧ Aside0 (Kd.R (Kd.int .i64) 3 w' w.heap.size (fun k_ => (w.heap.size ≤ k_)) v7 x7_1) ∧ Aside0 (w'.heap[gb300]? = some (.cells #[.int .i64 a0_0, (.slice A0_1 l0_1.length c0_1)] 24 (0, 0))) ∧ Aside0 (Below w.heap.size w w'))
  case atStart => exact ⟨(([] : List Int)), (0), rsz, H', ⟨Nat.le_refl _⟩, ⟨by (with_reducible repeat (first | apply Kd.V_alloc | apply Kd.V_drewN | apply Kd.V_drew)); exact Kd.V_mono HO1.out (fun _ hk => ⟨hk.1.1, ⟨(by simp [Value.ownBlock]), hk.1.2⟩⟩)⟩, ⟨by first | exact Kd.R_nil _ _ _ _ _ | exact Kd.N_nil _ _ _ _ _ | exact Kd.V_nil _ _ _ _ _ | exact Kd.Q_nil _ _ _ _ _ | exact Kd.S_nil _ _ _ _ _⟩, ⟨blkz⟩, ⟨bel⟩⟩
  case round =>
   clear H'
   (try clear c1); (try clear p2); (try clear c4); (try clear c4b0); (try clear c4b1); (try clear c7); (try clear hcz6_0); (try clear hcz6_1); (try clear hfz6_0); (try clear hfz6_1)
   obtain ⟨x7_1, x8_1, rfl, HA, HK1, HO_1, HO_7, BK300, HB⟩ := hrel
   cases gk with
   | zero => exact absurd HA.out (by simp [dropperref06_Can.l0])
   | succ k1 =>
    have H := HA.out
    clear HA
    simp only [dropperref06_Can.l0] at H
    by_cases c11 : x8_1 < (l0_1.length : Int)
    ·
     rw [if_pos c11] at H
     have c11b0 : decide (x8_1 < (l0_1.length : Int)) = true := decide_eq_true c11
     clear c11
     by_cases c12 : 0 ≤ x8_1
     ·
      rw [if_pos c12] at H
      have c12b0 : decide (0 ≤ x8_1) = true := decide_eq_true c12
      clear c12
      replace H := Option.bind_eq_some_iff.mp H
      obtain ⟨⟨t306, t309⟩, A130, H⟩ := H
      try dsimp only at H
      have A13 := Aside0.mk A130
      clear A130
      by_cases c14 : t309 = true
      ·
       subst c14
       rw [if_pos rfl] at H
       by_cases c15 : x7_1.length < 17592186044416
       ·
        rw [if_pos c15] at H
        have LMc15 := Aside0.mk c15
        clear c15
        obtain ⟨y310, hy310⟩ : ∃ y_ : List Int, y_ = (x7_1 ++ [x8_1]) := ⟨_, rfl⟩
        replace H : (dropperref06_Can.l0 k1 l1 y310 (wrap64 (x8_1 + 1)) a0_0 l0_1) = some (r1, r2) := by first | (rw [hy310]; with_reducible exact H) | (have H2_ := (Option.bind_some _ _).symm.trans H; rw [hy310]; with_reducible exact H2_) | (have H2_ := (Option.bind_some _ _).symm.trans H; with_reducible exact H2_) | with_reducible exact H | (rw [hy310]; exact H) | exact H
        have Ny310 := Aside0.mk hy310
        clear hy310
        have H' := Aside0.mk H
        clear H
        obtain ⟨hcz16_0, hcz16_1⟩ := bc2 BK300.out
        obtain ⟨hfz16_0, hfz16_1⟩ := bf2 BK300.out
        have p305 : 0 ≤ (x8_1 : Int) := of_decide_eq_true asz
        have q305 : x8_1 < (l0_1.length : Int) := of_decide_eq_true asz
        obtain ⟨ad305, A305_0, c305_0, A305_1, c305_1, e305, hx305_0, hx305_1, hl305_0, hi305_0, hl305_1, hi305_1⟩ := at_T64 HR0_1.out x8_1 p305 q305
        cases e305
        replace hx305_0 := (HB.out.cell (World.block_lt_of_cell? w _ hx305_0)).trans hx305_0
        replace hx305_1 := (HB.out.cell (World.block_lt_of_cell? w _ hx305_1)).trans hx305_1
        have HR305_0 := Aside0.mk hi305_0
        have HC305_0 := Aside0.mk hl305_0
        clear hi305_0 hl305_0
        have HR305_1 := Aside0.mk hi305_1
        have HC305_1 := Aside0.mk hl305_1
        clear hi305_1 hl305_1
        replace p305 := eq_true p305
        replace q305 := eq_true q305
        go_wp2_with (first | ((with_reducible refine gate_callee (f := 77) rfl ?_); refine goesL_ (some 32) rfl rfl Try.func77 (by kernel_rfl) rfl #[.agg #[.slice A305_0 ((rd_T64 l0_1 x8_1).f0).length c305_0, .slice A305_1 ((rd_T64 l0_1 x8_1).f1).length c305_1], .slice A1 l1.length c1] rfl mapz ?_; (with_reducible refine (dropperref06_after.calls k1 _ _ ((rd_T64 l0_1 x8_1).f0) _ _ ((rd_T64 l0_1 x8_1).f1) _ _ l1 t306 true _ (cbz HR305_0) HC305_0.out (cbz HR305_1) HC305_1.out ?side5 ?side6 A13.out).mono ?_); (case side5 => repeat (first | exact (Kd.V_reads' HO_1.out).2.2 | (with_reducible refine Kd.C_alloc ?_ _) | (with_reducible refine Kd.C_drewN ?_ _) | (with_reducible refine Kd.C_drew ?_))); (case side6 => exact (Kd.V_reads' HO_1.out).2.1); rintro e w17 ⟨v307, rfl, ho0, hb⟩; refine ⟨_, rfl, ?_⟩; have HO308 := Aside0.mk (Kd.R_lower (Kd.R_new' (Kd.R_newM (M := fun k_ => (w.heap.size ≤ k_)) ho0 (below_size bel) (fun k_ h_ => h_)) (Kd.R_lt (ownx HO_7))) (below_size bel)); replace HO_1 := Aside0.mk (Kd.V_elder' (by (with_reducible repeat (first | apply Kd.V_alloc | apply Kd.V_drewN | apply Kd.V_drew)); exact HO_1.out) (Kd.R_base ho0) hb); replace HO_7 := Aside0.mk (Kd.R_elder' (ownx HO_7) (Kd.R_base ho0) hb); replace BK300 := Aside0.mk (blk_below (g := gb300) blkz hb); replace HB := Aside0.mk (below_step bel hb); (try clear hb); (try clear hb2); (try clear hk); (try clear hi); (try clear ho0)) | ((with_reducible refine gate_builtin (b := .append) (xs := #[.tmp 36, .tmp 38]) rfl ?_); at_builtin; refine Kd.R_append (Kd.int .i64) (w0 := w) w.heap.size rfl (.tmp 36) (.tmp 38) 25 3 (.int .i64 0) 8 rfl Try.underlying25 info3 rfl (by decide) (by omega) u7 x7_1 x8_1 [.int .i64 x8_1] (fun k_ => (w.heap.size ≤ k_) ∧ some k_ ≠ (v307 : Value).ownBlock) (fun _ => False) rfl rfl ?aP (fun _ hk => hk.elim) ?aF ?aO ?aB ?aS ?aL ?_; (case aP => exact rfl); (case aB => exact bel); (case aF => exact (fun k_ hk => ⟨(Nat.le_trans (below_size bel) hk), Kd.fresh' (Kd.R_lt (ownx HO308)) k_ hk⟩)); (case aO => exact (ownx HO_7)); (case aS => exact (below_size bel)); (case aL => have := LMc15.out; omega); intro v311 w18 ho hb hg hat; rw [← Ny310.out] at ho; have n0_ := Aside0.mk (Kd.V_afterv (ok := (fun k_ => (P1_ k_ ∨ w.heap.size ≤ k_) ∧ some k_ ≠ (v307 : Value).ownBlock ∧ k_ ≠ gb300)) (by (with_reducible repeat (first | apply Kd.V_alloc | apply Kd.V_drewN | apply Kd.V_drew)); exact Kd.V_mono HO_1.out (fun _ hk => ⟨⟨hk.1.1, ⟨hk.2, hk.1.2.2⟩⟩, hk.1.2.1⟩)) hg hat); have n1_ := Aside0.mk (blk_grown (g := gb300) (o := .cells #[.int .i64 a0_0, .slice (some ad305) l0_1.length c0_1] 24 (0, 0)) blkz hg (Kd.R_ne HO_7.out BK300.out (by decide))); have n2_ := Aside0.mk (Kd.R_after (ok := (fun k_ => (w.heap.size ≤ k_))) (by (with_reducible repeat (first | apply Kd.R_alloc | apply Kd.R_drewN | apply Kd.R_drew)); exact Kd.R_mono HO308.out (fun _ hk => ⟨hk.1.1, hk.2⟩)) hg hat); have n3_ := Aside0.mk (hb); have n4_ := Aside0.mk (ho); clear HO_1; clear BK300; clear HO308; clear HB; clear HO_7; have HO_1 := n0_; have BK300 := n1_; have HO308 := n2_; have HB := n3_; have HO312 := n4_; clear n0_ n1_ n2_ n3_ n4_; clear ho hb hg hat))
        go_roundg k1
        case measure => have := HK1.out; omega
        case rel => exact ⟨(y310), (wrap64 (x8_1 + 1)), rsz, H', ⟨by have := HK1.out; omega⟩, ⟨by (with_reducible repeat (first | apply Kd.V_alloc | apply Kd.V_drewN | apply Kd.V_drew)); exact Kd.V_mono HO_1.out (fun _ hk => ⟨hk.1.1, ⟨hk.2, hk.1.2.2⟩⟩)⟩, ⟨by (with_reducible repeat (first | apply Kd.R_alloc | apply Kd.R_drewN | apply Kd.R_drew)); exact Kd.R_mono HO312.out (fun _ hk => hk.1)⟩, ⟨blkz⟩, ⟨bel⟩⟩
       ·
        rw [if_neg c15] at H
        exact absurd H (by simp)
      ·
       replace c14 := Bool.eq_false_iff.mpr c14
       subst c14
       rw [if_neg (show ¬ (false = true) by decide)] at H
       have H' := Aside0.mk H
       clear H
       obtain ⟨hcz19_0, hcz19_1⟩ := bc2 BK300.out
       obtain ⟨hfz19_0, hfz19_1⟩ := bf2 BK300.out
       have p305 : 0 ≤ (x8_1 : Int) := of_decide_eq_true asz
       have q305 : x8_1 < (l0_1.length : Int) := of_decide_eq_true asz
       obtain ⟨ad305, A305_0, c305_0, A305_1, c305_1, e305, hx305_0, hx305_1, hl305_0, hi305_0, hl305_1, hi305_1⟩ := at_T64 HR0_1.out x8_1 p305 q305
       cases e305
       replace hx305_0 := (HB.out.cell (World.block_lt_of_cell? w _ hx305_0)).trans hx305_0
       replace hx305_1 := (HB.out.cell (World.block_lt_of_cell? w _ hx305_1)).trans hx305_1
       have HR305_0 := Aside0.mk hi305_0
       have HC305_0 := Aside0.mk hl305_0
       clear hi305_0 hl305_0
       have HR305_1 := Aside0.mk hi305_1
       have HC305_1 := Aside0.mk hl305_1
       clear hi305_1 hl305_1
       replace p305 := eq_true p305
       replace q305 := eq_true q305
       go_wp2_with (first | ((with_reducible refine gate_callee (f := 77) rfl ?_); refine goesL_ (some 32) rfl rfl Try.func77 (by kernel_rfl) rfl #[.agg #[.slice A305_0 ((rd_T64 l0_1 x8_1).f0).length c305_0, .slice A305_1 ((rd_T64 l0_1 x8_1).f1).length c305_1], .slice A1 l1.length c1] rfl mapz ?_; (with_reducible refine (dropperref06_after.calls k1 _ _ ((rd_T64 l0_1 x8_1).f0) _ _ ((rd_T64 l0_1 x8_1).f1) _ _ l1 t306 false _ (cbz HR305_0) HC305_0.out (cbz HR305_1) HC305_1.out ?side5 ?side6 A13.out).mono ?_); (case side5 => repeat (first | exact (Kd.V_reads' HO_1.out).2.2 | (with_reducible refine Kd.C_alloc ?_ _) | (with_reducible refine Kd.C_drewN ?_ _) | (with_reducible refine Kd.C_drew ?_))); (case side6 => exact (Kd.V_reads' HO_1.out).2.1); rintro e w20 ⟨v307, rfl, ho0, hb⟩; refine ⟨_, rfl, ?_⟩; have HO308 := Aside0.mk (Kd.R_lower (Kd.R_new' (Kd.R_newM (M := fun k_ => (w.heap.size ≤ k_)) ho0 (below_size bel) (fun k_ h_ => h_)) (Kd.R_lt (ownx HO_7))) (below_size bel)); replace HO_1 := Aside0.mk (Kd.V_elder' (by (with_reducible repeat (first | apply Kd.V_alloc | apply Kd.V_drewN | apply Kd.V_drew)); exact HO_1.out) (Kd.R_base ho0) hb); replace HO_7 := Aside0.mk (Kd.R_elder' (ownx HO_7) (Kd.R_base ho0) hb); replace BK300 := Aside0.mk (blk_below (g := gb300) blkz hb); replace HB := Aside0.mk (below_step bel hb); (try clear hb); (try clear hb2); (try clear hk); (try clear hi); (try clear ho0)))
       go_roundg k1
       case measure => have := HK1.out; omega
       case rel => exact ⟨(x7_1), (wrap64 (x8_1 + 1)), rsz, H', ⟨by have := HK1.out; omega⟩, ⟨by (with_reducible repeat (first | apply Kd.V_alloc | apply Kd.V_drewN | apply Kd.V_drew)); exact Kd.V_mono HO_1.out (fun _ hk => ⟨hk.1.1, ⟨hk.1.2.1, hk.1.2.2⟩⟩)⟩, ⟨by (with_reducible repeat (first | apply Kd.R_alloc | apply Kd.R_drewN | apply Kd.R_drew)); exact Kd.R_mono HO_7.out (fun _ hk => hk.1)⟩, ⟨blkz⟩, ⟨bel⟩⟩
     ·
      rw [if_neg c12] at H
      exact absurd H (by simp)
    ·
     rw [if_neg c11] at H
     have c11b0 : decide (x8_1 < (l0_1.length : Int)) = false := decide_eq_false c11
     clear c11
     simp only [Option.some.injEq, Prod.mk.injEq] at H
     obtain ⟨rfl, rfl⟩ := H
     obtain ⟨hcz21_0, hcz21_1⟩ := bc2 BK300.out
     obtain ⟨hfz21_0, hfz21_1⟩ := bf2 BK300.out
     go_wp2
     go_ret2
     exact ⟨_, ezz, by (with_reducible repeat (first | apply Kd.R_alloc | apply Kd.R_drewN | apply Kd.R_drew)); exact HO_7.out, bel⟩
 ·
  rw [if_neg c4] at H
  have c4b0 : (t304 == 0) = false := beq_eq_false_iff_ne.mpr c4
  have c4b1 : (t304 != 0) = true := bne_iff_ne.mpr c4
  simp only [Option.some.injEq, Prod.mk.injEq] at H
  obtain ⟨rfl, rfl⟩ := H
  go_enter Try.func40, Try.ntmps40
  go_wp2_with (first | ((with_reducible refine gate_dst (N := 2) rfl ?_); refine box_event ?hg (N := 2) ?hd (cs := #[.int .i64 a0_0, .slice A0_1 l0_1.length c0_1]) (t := 24) ?hr ?_; (case hd => rfl); (case hg => rfl); (case hr => first | (go_simp; done) | (go_simp; rfl)); intro gb300 hg w22 hbox hb; have BK300 := Aside0.mk (hbox); have GW300 := bsz (w := w) hg; have GE300 := GW300; replace HO1 := Aside0.mk (Kd.V_below (Kd.V_elderB (by (with_reducible repeat (first | apply Kd.V_alloc | apply Kd.V_drewN | apply Kd.V_drew)); exact HO1.out) gb300 (Nat.le_of_eq hg.symm)) hb); replace HB := Aside0.mk (below_step bel hb); clear hb hbox hg; obtain ⟨hcz23_0, hcz23_1⟩ := bc2 BK300.out) | ((with_reducible refine gate_dst (N := 13) rfl ?_); refine Kd.N_lit (Kd.slice 3 (Kd.int .i64)) _ 25 ?hg (N' := 13) ?hd (xs := ([l1] : List (List Int))) (inner := [.slice A1 l1.length c1]) (ok := (fun k_ => (P1_ k_ ∨ w.heap.size ≤ k_) ∧ k_ ≠ gb300)) (okp := (fun k_ => (P1_ k_ ∨ w.heap.size ≤ k_) ∧ k_ ≠ gb300)) ?hr ?hp (fun _ hk => hk) ((show ∀ k_, w22.heap.size ≤ k_ → (fun k_ => (P1_ k_ ∨ w.heap.size ≤ k_) ∧ k_ ≠ gb300) k_ from fun k_ hk => ⟨(.inr (Nat.le_trans (below_size bel) hk)), Kd.freshB (g := gb300) (o := .cells #[.int .i64 a0_0, .slice A0_1 l0_1.length c0_1] 24 (0, 0)) blkz k_ hk⟩) _ (Nat.le_refl _)) (Below.refl _ _) (Nat.le_refl _) (by simp) ?_; (case hd => rfl); (case hg => rfl); (case hr => first | (go_simp; done) | (go_simp; rfl)); (case hp => exact (Reps.one (show Kd.FK (Kd.slice 3 (Kd.int .i64)) _ _ l1 [.slice A1 l1.length c1] from (Kd.FK_slice_mk (Kd.V_reads' (Kd.V_mono (ok' := (fun k_ => (P1_ k_ ∨ w.heap.size ≤ k_) ∧ k_ ≠ gb300)) (HO1.out) (fun k_ hk => ⟨hk.1, hk.2⟩))).2.1 (Kd.V_F (Kd.V_mono (ok' := (fun k_ => (P1_ k_ ∨ w.heap.size ≤ k_) ∧ k_ ≠ gb300)) (HO1.out) (fun k_ hk => ⟨hk.1, hk.2⟩))))) (Reps.none _ _))); intro v302 w24 ho25 hb hg_ hnew_; clear hg_ hnew_; (first | rw [← Ny301.out] at ho25 | (simp only [Int.reduceToNat] at ho25; rw [← Ny301.out] at ho25)); have HO303 := Aside0.mk (Kd.N_lower ho25 (below_size bel)); replace HO1 := Aside0.mk (Kd.V_elder' (by (with_reducible repeat (first | apply Kd.V_alloc | apply Kd.V_drewN | apply Kd.V_drew)); exact HO1.out) (Kd.N_base ho25) hb); replace BK300 := Aside0.mk (blk_below (g := gb300) blkz hb); replace HB := Aside0.mk (below_step bel hb); clear hb ho25; obtain ⟨Ao26, co26, eo26⟩ := Kd.N_slice HO303.out; subst eo26) | ((with_reducible refine gate_callee (f := 72) rfl ?_); refine goesL_ (some 14) rfl rfl Try.func72 (by kernel_rfl) rfl #[.agg #[.int .i64 a0_0, .slice A0_1 l0_1.length c0_1], .slice Ao26 y301.length co26] rfl mapz ?_; (with_reducible refine (dropperref06_asked.calls k a0_0 _ _ l0_1 _ _ y301 t304 _ (cbz HR0_1) HC0_1.out ?side3 ?side4 A3.out).mono ?_); (case side3 => repeat (first | exact (Kd.N_reads' HO303.out).2.2 | (with_reducible refine Kd.C_alloc ?_ _) | (with_reducible refine Kd.C_drewN ?_ _) | (with_reducible refine Kd.C_drew ?_))); (case side4 => exact (Kd.N_reads' HO303.out).2.1); rintro e w27 ⟨rfl, hb⟩; refine ⟨_, rfl, ?_⟩; replace HO1 := Aside0.mk (Kd.V_below (by (with_reducible repeat (first | apply Kd.V_alloc | apply Kd.V_drewN | apply Kd.V_drew)); exact HO1.out) hb); replace HO303 := Aside0.mk (Kd.N_below (by (with_reducible repeat (first | apply Kd.N_alloc | apply Kd.N_drewN | apply Kd.N_drew)); exact HO303.out) hb); replace BK300 := Aside0.mk (blk_below (g := gb300) blkz hb); replace HB := Aside0.mk (below_step bel hb); clear hb))
  go_ret2
  exact ⟨_, ezz, by first | exact Kd.R_nil _ _ _ _ _ | exact Kd.N_nil _ _ _ _ _ | exact Kd.V_nil _ _ _ _ _ | exact Kd.Q_nil _ _ _ _ _ | exact Kd.S_nil _ _ _ _ _, bel⟩

/-! ### key_Can: function 24 -/
def key_Can.f (k : Nat) (a0_0 : Int) (l0_1 : List (S64)) (l1 : List Int) : Option (List Int × Int) := (key_open.f a0_0 l0_1 (([l1] : List (List Int)))).bind fun t427 => (if t427 = 0 then ((key_keysOf.f l1).bind fun bt428 => ((key_can.f k a0_0 l0_1 bt428.1 bt428.2.1 bt428.2.2.1 bt428.2.2.2.1 bt428.2.2.2.2.1 bt428.2.2.2.2.2).bind fun t434 => (some (t434, 0)))) else (some (([] : List Int), t427)))
set_option maxHeartbeats 8000000 in
set_option maxRecDepth 100000 in
theorem key_Can.calls (k : Nat) (a0_0 : Int) (A0_1 : Option Addr) (c0_1 : Nat) (l0_1 : List (S64)) (P1_ : Nat → Prop) (A1 : Option Addr) (c1 : Nat) (l1 : List Int) (r1 : List Int) (r2 : Int) (w : World) (hr0_1 : Kd.C k64 w A0_1 l0_1.length l0_1) (hc0_1 : l0_1.length ≤ c0_1) (hs1 : Kd.V (Kd.int .i64) 3 w w.heap.size (fun k_ => P1_ k_) (.slice A1 l1.length c1) l1) (h : key_Can.f k a0_0 l0_1 l1 = some (r1, r2)) :
  Calls Try.prog 24 #[.agg #[.int .i64 a0_0, .slice A0_1 l0_1.length c0_1], .slice A1 l1.length c1] w fun e w' => ∃ v0_ : Value, e = .returned (.tuple #[v0_, .int .i64 r2]) ∧ Kd.R (Kd.int .i64) 3 w' w.heap.size (fun k_ => (w.heap.size ≤ k_)) v0_ r1 ∧ Below w.heap.size w w' := by
 have hu24 := Try.underlying24
 have HR0_1 := Aside0.mk hr0_1
 have HC0_1 := Aside0.mk hc0_1
 clear hr0_1 hc0_1
 have HO1 := Aside0.mk (show Kd.V (Kd.int .i64) 3 w w.heap.size (fun k_ => (P1_ k_ ∨ w.heap.size ≤ k_)) (.slice A1 l1.length c1) l1 from Kd.V_mono hs1 (fun k_ hk => .inl hk))
 have HB := Aside0.mk (Below.refl w.heap.size w)
 have H : ((key_open.f a0_0 l0_1 (([l1] : List (List Int)))).bind fun t427 => (if t427 = 0 then ((key_keysOf.f l1).bind fun bt428 => ((key_can.f k a0_0 l0_1 bt428.1 bt428.2.1 bt428.2.2.1 bt428.2.2.2.1 bt428.2.2.2.2.1 bt428.2.2.2.2.2).bind fun t434 => (some (t434, 0)))) else (some (([] : List Int), t427)))) = some (r1, r2) := h
 clear h
 obtain ⟨y424, hy424⟩ : ∃ y_ : List (List Int), y_ = (([l1] : List (List Int))) := ⟨_, rfl⟩
 replace H : ((key_open.f a0_0 l0_1 y424).bind fun t427 => (if t427 = 0 then ((key_keysOf.f l1).bind fun bt428 => ((key_can.f k a0_0 l0_1 bt428.1 bt428.2.1 bt428.2.2.1 bt428.2.2.2.1 bt428.2.2.2.2.1 bt428.2.2.2.2.2).bind fun t434 => (some (t434, 0)))) else (some (([] : List Int), t427)))) = some (r1, r2) := by first | (rw [hy424]; with_reducible exact H) | (have H2_ := (Option.bind_some _ _).symm.trans H; rw [hy424]; with_reducible exact H2_) | (have H2_ := (Option.bind_some _ _).symm.trans H; with_reducible exact H2_) | with_reducible exact H | (rw [hy424]; exact H) | exact H
 have Ny424 := Aside0.mk hy424
 clear hy424
 replace H := Option.bind_eq_some_iff.mp H
 obtain ⟨t427, A30, H⟩ := H
 try dsimp only at H
 have A3 := Aside0.mk A30
 clear A30
 by_cases c4 : t427 = 0
 ·
  rw [if_pos c4] at H
  have c4b0 : (t427 == 0) = true := beq_iff_eq.mpr c4
  have c4b1 : (t427 != 0) = false := bne_eq_false_iff_eq.mpr c4
  clear c4
  replace H := Option.bind_eq_some_iff.mp H
  obtain ⟨⟨t428, t429, t430, t431, t432, t433⟩, A50, H⟩ := H
  try dsimp only at H
  have A5 := Aside0.mk A50
  clear A50
  replace H := Option.bind_eq_some_iff.mp H
  obtain ⟨t434, A60, H⟩ := H
  try dsimp only at H
  have A6 := Aside0.mk A60
  clear A60
  simp only [Option.some.injEq, Prod.mk.injEq] at H
  obtain ⟨rfl, rfl⟩ := H
  go_enter Try.func24, Try.ntmps24
  try go_wp2_with (first | ((with_reducible refine gate_dst (N := 2) rfl ?_); refine box_event ?hg (N := 2) ?hd (cs := #[.int .i64 a0_0, .slice A0_1 l0_1.length c0_1]) (t := 24) ?hr ?_; (case hd => rfl); (case hg => rfl); (case hr => first | (go_simp; done) | (go_simp; rfl)); intro gb423 hg w7 hbox hb; have BK423 := Aside0.mk (hbox); have GW423 := bsz (w := w) hg; have GE423 := GW423; replace HO1 := Aside0.mk (Kd.V_below (Kd.V_elderB (by (with_reducible repeat (first | apply Kd.V_alloc | apply Kd.V_drewN | apply Kd.V_drew)); exact HO1.out) gb423 (Nat.le_of_eq hg.symm)) hb); replace HB := Aside0.mk (below_step bel hb); clear hb hbox hg; obtain ⟨hcz8_0, hcz8_1⟩ := bc2 BK423.out) | ((with_reducible refine gate_dst (N := 9) rfl ?_); refine Kd.N_lit (Kd.slice 3 (Kd.int .i64)) _ 25 ?hg (N' := 9) ?hd (xs := ([l1] : List (List Int))) (inner := [.slice A1 l1.length c1]) (ok := (fun k_ => (P1_ k_ ∨ w.heap.size ≤ k_) ∧ k_ ≠ gb423)) (okp := (fun k_ => (P1_ k_ ∨ w.heap.size ≤ k_) ∧ k_ ≠ gb423)) ?hr ?hp (fun _ hk => hk) ((show ∀ k_, w7.heap.size ≤ k_ → (fun k_ => (P1_ k_ ∨ w.heap.size ≤ k_) ∧ k_ ≠ gb423) k_ from fun k_ hk => ⟨(.inr (Nat.le_trans (below_size bel) hk)), Kd.freshB (g := gb423) (o := .cells #[.int .i64 a0_0, .slice A0_1 l0_1.length c0_1] 24 (0, 0)) blkz k_ hk⟩) _ (Nat.le_refl _)) (Below.refl _ _) (Nat.le_refl _) (by simp) ?_; (case hd => rfl); (case hg => rfl); (case hr => first | (go_simp; done) | (go_simp; rfl)); (case hp => exact (Reps.one (show Kd.FK (Kd.slice 3 (Kd.int .i64)) _ _ l1 [.slice A1 l1.length c1] from (Kd.FK_slice_mk (Kd.V_reads' (Kd.V_mono (ok' := (fun k_ => (P1_ k_ ∨ w.heap.size ≤ k_) ∧ k_ ≠ gb423)) (HO1.out) (fun k_ hk => ⟨hk.1, hk.2⟩))).2.1 (Kd.V_F (Kd.V_mono (ok' := (fun k_ => (P1_ k_ ∨ w.heap.size ≤ k_) ∧ k_ ≠ gb423)) (HO1.out) (fun k_ hk => ⟨hk.1, hk.2⟩))))) (Reps.none _ _))); intro v425 w9 ho10 hb hg_ hnew_; clear hg_ hnew_; (first | rw [← Ny424.out] at ho10 | (simp only [Int.reduceToNat] at ho10; rw [← Ny424.out] at ho10)); have HO426 := Aside0.mk (Kd.N_lower ho10 (below_size bel)); replace HO1 := Aside0.mk (Kd.V_elder' (by (with_reducible repeat (first | apply Kd.V_alloc | apply Kd.V_drewN | apply Kd.V_drew)); exact HO1.out) (Kd.N_base ho10) hb); replace BK423 := Aside0.mk (blk_below (g := gb423) blkz hb); replace HB := Aside0.mk (below_step bel hb); clear hb ho10; obtain ⟨Ao11, co11, eo11⟩ := Kd.N_slice HO426.out; subst eo11) | ((with_reducible refine gate_callee (f := 68) rfl ?_); refine goesL_ (some 10) rfl rfl Try.func68 (by kernel_rfl) rfl #[.agg #[.int .i64 a0_0, .slice A0_1 l0_1.length c0_1], .slice Ao11 y424.length co11] rfl mapz ?_; (with_reducible refine (key_open.calls a0_0 _ _ l0_1 _ _ y424 t427 _ (cbz HR0_1) HC0_1.out ?side3 ?side4 A3.out).mono ?_); (case side3 => repeat (first | exact (Kd.N_reads' HO426.out).2.2 | (with_reducible refine Kd.C_alloc ?_ _) | (with_reducible refine Kd.C_drewN ?_ _) | (with_reducible refine Kd.C_drew ?_))); (case side4 => exact (Kd.N_reads' HO426.out).2.1); rintro e w12 ⟨rfl, hb⟩; refine ⟨_, rfl, ?_⟩; replace HO1 := Aside0.mk (Kd.V_below (by (with_reducible repeat (first | apply Kd.V_alloc | apply Kd.V_drewN | apply Kd.V_drew)); exact HO1.out) hb); replace HO426 := Aside0.mk (Kd.N_below (by (with_reducible repeat (first | apply Kd.N_alloc | apply Kd.N_drewN | apply Kd.N_drew)); exact HO426.out) hb); replace BK423 := Aside0.mk (blk_below (g := gb423) blkz hb); replace HB := Aside0.mk (below_step bel hb); clear hb))
  have n0_ := Aside0.mk (Kd.V_drew HO1.out)
  have n1_ := Aside0.mk (Kd.N_drew HO426.out)
  have n2_ := Aside0.mk (blk_drew BK423.out)
  have n3_ := Aside0.mk (below_drew1 HB.out)
  clear HO1
  clear HO426
  clear BK423
  clear HB
  have HO1 := n0_
  have HO426 := n1_
  have BK423 := n2_
  have HB := n3_
  clear n0_ n1_ n2_ n3_
  refine start_ (n := 6) (S := fun w' => w'.cell? ⟨gb423, 0, none⟩ = some (.int .i64 a0_0) ∧ w'.cell? ⟨gb423, 1, none⟩ = some (.slice A0_1 l0_1.length c0_1)) (ds := []) #[false, false, false, false, false, false] (by kernel_rfl) rfl rfl ⟨(blk_cell BK423.out 0).trans rfl, (blk_cell BK423.out 1).trans rfl⟩ (fun hHeld => ?_)
  generalize w12.drew = w13 at HO1 HO426 BK423 HB hHeld ⊢
  refine pst (i := 1) (N := some 15) (bz 6 2) (by kernel_rfl) ?_
  refine tst2 (i := 0) (N := some 14) (bz 6 3) (by kernel_rfl) hHeld ?_
  refine one_ (i := 2) (N := some 16) #[true, true, true, false, false, false] rfl rfl (by kernel_rfl) (by decide) (fun K hK => ?_)
  refine goes_ Try.func61 (by kernel_rfl) rfl #[.slice A1 l1.length c1] (by rfl) rfl rfl mapz ?_
  with_reducible refine (key_keysOf.calls _ _ l1 t428 t429 t430 t431 t432 t433 _ ?side1 ?side2 A5.out).mono ?_
  (case side1 => repeat (first | exact (Kd.V_reads' HO1.out).2.2 | (with_reducible refine Kd.C_alloc ?_ _) | (with_reducible refine Kd.C_drewN ?_ _) | (with_reducible refine Kd.C_drew ?_)))
  (case side2 => exact (Kd.V_reads' HO1.out).2.1)
  rintro e w14 ⟨rfl, hb⟩
  refine ⟨_, rfl, ?_⟩
  have n0_ := Aside0.mk (Kd.V_below (by (with_reducible repeat (first | apply Kd.V_alloc | apply Kd.V_drewN | apply Kd.V_drew)); exact HO1.out) hb)
  have n1_ := Aside0.mk (Kd.N_below (by (with_reducible repeat (first | apply Kd.N_alloc | apply Kd.N_drewN | apply Kd.N_drew)); exact HO426.out) hb)
  have n2_ := Aside0.mk (blk_below (g := gb423) blkz hb)
  have n3_ := Aside0.mk (below_step bel hb)
  clear HO1
  clear HO426
  clear BK423
  clear HB
  have HO1 := n0_
  have HO426 := n1_
  have BK423 := n2_
  have HB := n3_
  clear n0_ n1_ n2_ n3_
  (try clear hb)
  (try clear hb2)
  (try clear hk)
  (try clear hi)
  refine hK.out _ _ ⟨(blk_cell BK423.out 0).trans rfl, (blk_cell BK423.out 1).trans rfl⟩ (fun hHeld => ?_)
  clear hK K
  refine norm_ (a' := ?_) ?_ ?_
  rotate_left
  ·
   show Act.put _ (some 16) _ = _
   simp only [Act.put, List.setIfInBounds_toArray, List.set_cons_zero, List.set_cons_succ, i64_w, i32_w]
   rfl
  refine one_ (i := 3) (N := some 17) #[true, true, true, true, false, false] rfl rfl (by kernel_rfl) (by decide) (fun K hK => ?_)
  refine goes_ Try.func58 (by kernel_rfl) rfl #[.agg #[.int .i64 a0_0, .slice A0_1 l0_1.length c0_1], .agg #[.int .i64 t428, .int .i64 t429, .int .i64 t430, .int .i64 t431, .int .i64 t432, .int .i64 t433]] (by rfl) rfl rfl mapz ?_
  with_reducible refine (key_can.calls k a0_0 _ _ l0_1 t428 t429 t430 t431 t432 t433 t434 _ ?side1 ?side2 A6.out).mono ?_
  (case side1 => exact cbz HR0_1)
  (case side2 => exact HC0_1.out)
  rintro e w15 ⟨v435, rfl, ho0, hb⟩
  refine ⟨_, rfl, ?_⟩
  have n0_ := Aside0.mk (Kd.V_elder' (by (with_reducible repeat (first | apply Kd.V_alloc | apply Kd.V_drewN | apply Kd.V_drew)); exact HO1.out) (Kd.R_base ho0) hb)
  have n1_ := Aside0.mk (Kd.N_elder' (by (with_reducible repeat (first | apply Kd.N_alloc | apply Kd.N_drewN | apply Kd.N_drew)); exact HO426.out) (Kd.R_base ho0) hb)
  have n2_ := Aside0.mk (Kd.R_lower (Kd.R_newM (M := fun k_ => (w.heap.size ≤ k_)) ho0 (below_size bel) (fun k_ h_ => h_)) (below_size bel))
  have n3_ := Aside0.mk (blk_below (g := gb423) blkz hb)
  have n4_ := Aside0.mk (below_step bel hb)
  clear HO1
  clear HO426
  clear BK423
  clear HB
  have HO1 := n0_
  have HO426 := n1_
  have HO436 := n2_
  have BK423 := n3_
  have HB := n4_
  clear n0_ n1_ n2_ n3_ n4_
  (try clear hb)
  (try clear hb2)
  (try clear hk)
  (try clear hi)
  (try clear ho0)
  refine hK.out _ _ ⟨(blk_cell BK423.out 0).trans rfl, (blk_cell BK423.out 1).trans rfl⟩ (fun hHeld => ?_)
  clear hK K
  refine norm_ (a' := ?_) ?_ ?_
  rotate_left
  ·
   show Act.put _ (some 17) _ = _
   simp only [Act.put, List.setIfInBounds_toArray, List.set_cons_zero, List.set_cons_succ, i64_w, i32_w]
   rfl
  refine pst (i := 4) (N := some 4) (bz 6 31) (by kernel_rfl) ?_
  refine pst (i := 5) (N := some 5) (bz 6 63) (by kernel_rfl) ?_
  refine done_ (by kernel_rfl) ?_
  try go_wp2
  go_ret2
  exact ⟨_, ezz, by (with_reducible repeat (first | apply Kd.R_alloc | apply Kd.R_drewN | apply Kd.R_drew)); exact Kd.R_mono HO436.out (fun _ hk => hk.1), bel⟩
 ·
  rw [if_neg c4] at H
  have c4b0 : (t427 == 0) = false := beq_eq_false_iff_ne.mpr c4
  have c4b1 : (t427 != 0) = true := bne_iff_ne.mpr c4
  simp only [Option.some.injEq, Prod.mk.injEq] at H
  obtain ⟨rfl, rfl⟩ := H
  go_enter Try.func24, Try.ntmps24
  go_wp2_with (first | ((with_reducible refine gate_dst (N := 2) rfl ?_); refine box_event ?hg (N := 2) ?hd (cs := #[.int .i64 a0_0, .slice A0_1 l0_1.length c0_1]) (t := 24) ?hr ?_; (case hd => rfl); (case hg => rfl); (case hr => first | (go_simp; done) | (go_simp; rfl)); intro gb423 hg w16 hbox hb; have BK423 := Aside0.mk (hbox); have GW423 := bsz (w := w) hg; have GE423 := GW423; replace HO1 := Aside0.mk (Kd.V_below (Kd.V_elderB (by (with_reducible repeat (first | apply Kd.V_alloc | apply Kd.V_drewN | apply Kd.V_drew)); exact HO1.out) gb423 (Nat.le_of_eq hg.symm)) hb); replace HB := Aside0.mk (below_step bel hb); clear hb hbox hg; obtain ⟨hcz17_0, hcz17_1⟩ := bc2 BK423.out) | ((with_reducible refine gate_dst (N := 9) rfl ?_); refine Kd.N_lit (Kd.slice 3 (Kd.int .i64)) _ 25 ?hg (N' := 9) ?hd (xs := ([l1] : List (List Int))) (inner := [.slice A1 l1.length c1]) (ok := (fun k_ => (P1_ k_ ∨ w.heap.size ≤ k_) ∧ k_ ≠ gb423)) (okp := (fun k_ => (P1_ k_ ∨ w.heap.size ≤ k_) ∧ k_ ≠ gb423)) ?hr ?hp (fun _ hk => hk) ((show ∀ k_, w16.heap.size ≤ k_ → (fun k_ => (P1_ k_ ∨ w.heap.size ≤ k_) ∧ k_ ≠ gb423) k_ from fun k_ hk => ⟨(.inr (Nat.le_trans (below_size bel) hk)), Kd.freshB (g := gb423) (o := .cells #[.int .i64 a0_0, .slice A0_1 l0_1.length c0_1] 24 (0, 0)) blkz k_ hk⟩) _ (Nat.le_refl _)) (Below.refl _ _) (Nat.le_refl _) (by simp) ?_; (case hd => rfl); (case hg => rfl); (case hr => first | (go_simp; done) | (go_simp; rfl)); (case hp => exact (Reps.one (show Kd.FK (Kd.slice 3 (Kd.int .i64)) _ _ l1 [.slice A1 l1.length c1] from (Kd.FK_slice_mk (Kd.V_reads' (Kd.V_mono (ok' := (fun k_ => (P1_ k_ ∨ w.heap.size ≤ k_) ∧ k_ ≠ gb423)) (HO1.out) (fun k_ hk => ⟨hk.1, hk.2⟩))).2.1 (Kd.V_F (Kd.V_mono (ok' := (fun k_ => (P1_ k_ ∨ w.heap.size ≤ k_) ∧ k_ ≠ gb423)) (HO1.out) (fun k_ hk => ⟨hk.1, hk.2⟩))))) (Reps.none _ _))); intro v425 w18 ho19 hb hg_ hnew_; clear hg_ hnew_; (first | rw [← Ny424.out] at ho19 | (simp only [Int.reduceToNat] at ho19; rw [← Ny424.out] at ho19)); have HO426 := Aside0.mk (Kd.N_lower ho19 (below_size bel)); replace HO1 := Aside0.mk (Kd.V_elder' (by (with_reducible repeat (first | apply Kd.V_alloc | apply Kd.V_drewN | apply Kd.V_drew)); exact HO1.out) (Kd.N_base ho19) hb); replace BK423 := Aside0.mk (blk_below (g := gb423) blkz hb); replace HB := Aside0.mk (below_step bel hb); clear hb ho19; obtain ⟨Ao20, co20, eo20⟩ := Kd.N_slice HO426.out; subst eo20) | ((with_reducible refine gate_callee (f := 68) rfl ?_); refine goesL_ (some 10) rfl rfl Try.func68 (by kernel_rfl) rfl #[.agg #[.int .i64 a0_0, .slice A0_1 l0_1.length c0_1], .slice Ao20 y424.length co20] rfl mapz ?_; (with_reducible refine (key_open.calls a0_0 _ _ l0_1 _ _ y424 t427 _ (cbz HR0_1) HC0_1.out ?side3 ?side4 A3.out).mono ?_); (case side3 => repeat (first | exact (Kd.N_reads' HO426.out).2.2 | (with_reducible refine Kd.C_alloc ?_ _) | (with_reducible refine Kd.C_drewN ?_ _) | (with_reducible refine Kd.C_drew ?_))); (case side4 => exact (Kd.N_reads' HO426.out).2.1); rintro e w21 ⟨rfl, hb⟩; refine ⟨_, rfl, ?_⟩; replace HO1 := Aside0.mk (Kd.V_below (by (with_reducible repeat (first | apply Kd.V_alloc | apply Kd.V_drewN | apply Kd.V_drew)); exact HO1.out) hb); replace HO426 := Aside0.mk (Kd.N_below (by (with_reducible repeat (first | apply Kd.N_alloc | apply Kd.N_drewN | apply Kd.N_drew)); exact HO426.out) hb); replace BK423 := Aside0.mk (blk_below (g := gb423) blkz hb); replace HB := Aside0.mk (below_step bel hb); clear hb))
  go_ret2
  exact ⟨_, ezz, by first | exact Kd.R_nil _ _ _ _ _ | exact Kd.N_nil _ _ _ _ _ | exact Kd.V_nil _ _ _ _ _ | exact Kd.Q_nil _ _ _ _ _ | exact Kd.S_nil _ _ _ _ _, bel⟩

/-! ### key_within: function 78 -/
def key_within.f (a0 : Int) (a1 : Int) (a2 : Int) : Option (Bool) := if a0 ≤ a1 then (some (decide (a1 ≤ a2))) else (some false)
set_option maxHeartbeats 8000000 in
set_option maxRecDepth 100000 in
theorem key_within.calls (a0 : Int) (a1 : Int) (a2 : Int) (r : Bool) (w : World) (h : key_within.f a0 a1 a2 = some r) :
  Calls Try.prog 78 #[.int .i64 a0, .int .i64 a1, .int .i64 a2] w fun e w' => e = .returned (.bool r) ∧ Drawn0 w w' := by
 have H : (if a0 ≤ a1 then (some (decide (a1 ≤ a2))) else (some false)) = some r := h
 clear h
 by_cases c4 : a0 ≤ a1
 ·
  rw [if_pos c4] at H
  have c4b0 : decide (a0 ≤ a1) = true := decide_eq_true c4
  clear c4
  obtain rfl := Option.some.inj H
  go_enter Try.func78, Try.ntmps78
  go_wp2
  go_ret
  exact ⟨by first | rfl | (simp; done) | (simp [*]; done), drz⟩
 ·
  rw [if_neg c4] at H
  have c4b0 : decide (a0 ≤ a1) = false := decide_eq_false c4
  clear c4
  obtain rfl := Option.some.inj H
  go_enter Try.func78, Try.ntmps78
  go_wp2
  go_ret
  exact ⟨by first | rfl | (simp; done) | (simp [*]; done), drz⟩

end Go.Proofs.Ytgdfakmlpdeabaa.XKey