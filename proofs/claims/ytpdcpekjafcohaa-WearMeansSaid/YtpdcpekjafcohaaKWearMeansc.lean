-- Written by wip/pack.py of this repo: texts of this claim, put together.
import Derived.Test.YtpdcpekjafcohaaKWearMeansb
-- Written by wip/xprint.py of this repo, over the kit's print.py: out of the translation; the oracles in it are by hand. Not trusted: Lean checks it.
namespace Go.Proofs.Ytpdcpekjafcohaa.XWear
open Go.RowKit Go.Proofs.YtpdcpekjafcohaaW.PrintWords Go.Proofs.YtpdcpekjafcohaaW.PrintLast Go.Proofs.YtpdcpekjafcohaaW.PrintMore
attribute [local go_sem] max2_int min2_int max_two min_two max_three min_three max_four min_four   -- for this text's walks alone
set_option linter.unusedVariables false
set_option linter.unusedSimpArgs false

/-! ### wear_Between: function 43 -/
mutual
def wear_Between.l0 : Nat → List Int → Int → Int → Int → Int → Int → Option (Int × Int × Int)
  | 0, _, _, _, _, _, _ => none
  | k + 1, x0, x1, x25, x26, x496000, x496001 => if x26 < x25 then (if 0 ≤ x26 then (if x26 ≤ (wrap64 (x1 + 1)) then (if (wrap64 (x1 + 1)) ≤ (x0.length : Int) then ((wear_mean.f k ((x0.take ((wrap64 (x1 + 1)) : Int).toNat).drop (x26 : Int).toNat)).bind fun bt497 => (wear_Between.l1 k x0 x1 x26 (wrap64 (x1 + 1)) x25 x26 x496000 x496001 bt497.1 bt497.2)) else (none)) else (none)) else (none)) else (some (x496000, x496001, 0))
def wear_Between.l1 : Nat → List Int → Int → Int → Int → Int → Int → Int → Int → Int → Int → Option (Int × Int × Int)
  | 0, _, _, _, _, _, _, _, _, _, _ => none
  | k + 1, x0, x1, x7, x9, x25, x26, x496000, x496001, x500000, x500001 => if x9 < (x0.length : Int) then (if 0 ≤ x7 then (if x7 ≤ (wrap64 (x9 + 1)) then (if (wrap64 (x9 + 1)) ≤ (x0.length : Int) then ((wear_mean.f k ((x0.take ((wrap64 (x9 + 1)) : Int).toNat).drop (x7 : Int).toNat)).bind fun bt502 => ((wear_less.f bt502.1 bt502.2 x500000 x500001).bind fun t505 => (if t505 = true then (wear_Between.l1 k x0 x1 x7 (wrap64 (x9 + 1)) x25 x26 x496000 x496001 bt502.1 bt502.2) else (wear_Between.l1 k x0 x1 x7 (wrap64 (x9 + 1)) x25 x26 x496000 x496001 x500000 x500001)))) else (none)) else (none)) else (none)) else (if x7 = 0 then (wear_Between.l0 k x0 x1 x25 (wrap64 (x26 + 1)) x500000 x500001) else ((wear_less.f x496000 x496001 x500000 x500001).bind fun t500 => (if t500 = true then (wear_Between.l0 k x0 x1 x25 (wrap64 (x26 + 1)) x500000 x500001) else (wear_Between.l0 k x0 x1 x25 (wrap64 (x26 + 1)) x496000 x496001))))
end
def wear_Between.f (k : Nat) (l0 : List Int) (a1 : Int) : Option (Int × Int × Int) := (wear_Valid.f l0).bind fun t493 => (if t493 = true then ((wear_within.f 0 a1 (wrap64 ((l0.length : Int) - 1))).bind fun t494 => (if t494 = true then (wear_Between.l0 k l0 a1 (wrap64 (a1 + 1)) 0 0 0) else (some (0, 0, 2)))) else (some (0, 0, 70)))
theorem wear_Between.mono_l : ∀ k, (∀ y0 y1 y2 y3 y4 y5, LeO (wear_Between.l0 k y0 y1 y2 y3 y4 y5) (wear_Between.l0 (k + 1) y0 y1 y2 y3 y4 y5)) ∧ (∀ y0 y1 y2 y3 y4 y5 y6 y7 y8 y9, LeO (wear_Between.l1 k y0 y1 y2 y3 y4 y5 y6 y7 y8 y9) (wear_Between.l1 (k + 1) y0 y1 y2 y3 y4 y5 y6 y7 y8 y9))
  | 0 => ⟨fun _ _ _ _ _ _ r h => by simp [wear_Between.l0] at h, fun _ _ _ _ _ _ _ _ _ _ r h => by simp [wear_Between.l1] at h⟩
  | k + 1 => by
    obtain ⟨ih0, ih1⟩ := wear_Between.mono_l k
    refine ⟨?_, ?_⟩
    · intro y0 y1 y2 y3 y4 y5
      unfold wear_Between.l0
      repeat' first
      | (with_reducible exact ih0 _ _ _ _ _ _)
      | (with_reducible exact ih1 _ _ _ _ _ _ _ _ _ _)
      | (with_reducible exact wear_mean.mono _ _)
      | (with_reducible exact LeO.refl _)
      | (with_reducible exact LeO.none _)
      | (with_reducible refine LeO.ite ?_ ?_)
      | (with_reducible refine LeO.bind ?_ (fun _ => ?_))
      | exact ih0 _ _ _ _ _ _
      | exact ih1 _ _ _ _ _ _ _ _ _ _
      | exact wear_mean.mono _ _
      | exact LeO.none _
      | refine LeO.ite ?_ ?_
      | refine LeO.bind ?_ (fun _ => ?_)
    · intro y0 y1 y2 y3 y4 y5 y6 y7 y8 y9
      unfold wear_Between.l1
      repeat' first
      | (with_reducible exact ih0 _ _ _ _ _ _)
      | (with_reducible exact ih1 _ _ _ _ _ _ _ _ _ _)
      | (with_reducible exact wear_mean.mono _ _)
      | (with_reducible exact LeO.refl _)
      | (with_reducible exact LeO.none _)
      | (with_reducible refine LeO.ite ?_ ?_)
      | (with_reducible refine LeO.bind ?_ (fun _ => ?_))
      | exact ih0 _ _ _ _ _ _
      | exact ih1 _ _ _ _ _ _ _ _ _ _
      | exact wear_mean.mono _ _
      | exact LeO.none _
      | refine LeO.ite ?_ ?_
      | refine LeO.bind ?_ (fun _ => ?_)
theorem wear_Between.mono : ∀ a0 a1 k, LeO (wear_Between.f k a0 a1) (wear_Between.f (k + 1) a0 a1) := by
  intro a0 a1 k
  obtain ⟨ih0, ih1⟩ := wear_Between.mono_l k
  unfold wear_Between.f
  repeat' first
      | (with_reducible exact ih0 _ _ _ _ _ _)
      | (with_reducible exact ih1 _ _ _ _ _ _ _ _ _ _)
      | (with_reducible exact wear_mean.mono _ _)
      | (with_reducible exact LeO.refl _)
      | (with_reducible exact LeO.none _)
      | (with_reducible refine LeO.ite ?_ ?_)
      | (with_reducible refine LeO.bind ?_ (fun _ => ?_))
      | exact ih0 _ _ _ _ _ _
      | exact ih1 _ _ _ _ _ _ _ _ _ _
      | exact wear_mean.mono _ _
      | exact LeO.none _
      | refine LeO.ite ?_ ?_
      | refine LeO.bind ?_ (fun _ => ?_)
set_option maxHeartbeats 8000000 in
set_option maxRecDepth 100000 in
theorem wear_Between.calls (k : Nat) (A0 : Option Addr) (c0 : Nat) (l0 : List Int) (a1 : Int) (r1 : Int) (r2 : Int) (r3 : Int) (w : World) (hr0 : Kd.C (Kd.int .i64) w A0 l0.length l0) (hc0 : l0.length ≤ c0) (h : wear_Between.f k l0 a1 = some (r1, r2, r3)) :
    Calls Try.prog 43 #[.slice A0 l0.length c0, .int .i64 a1] w fun e w' => e = .returned (.tuple #[.agg #[.int .i64 r1, .int .i64 r2], .int .i64 r3]) ∧ Below w.heap.size w w' := by
  have hu35 := Try.underlying35
  have HR0 := Aside0.mk hr0
  have HC0 := Aside0.mk hc0
  clear hr0 hc0
  have HB := Aside0.mk (Below.refl w.heap.size w)
  have H : ((wear_Valid.f l0).bind fun t493 => (if t493 = true then ((wear_within.f 0 a1 (wrap64 ((l0.length : Int) - 1))).bind fun t494 => (if t494 = true then (wear_Between.l0 k l0 a1 (wrap64 (a1 + 1)) 0 0 0) else (some (0, 0, 2)))) else (some (0, 0, 70)))) = some (r1, r2, r3) := h
  clear h
  replace H := Option.bind_eq_some_iff.mp H
  obtain ⟨t493, A30, H⟩ := H
  replace H : (if t493 = true then ((wear_within.f 0 a1 (wrap64 ((l0.length : Int) - 1))).bind fun t494 => (if t494 = true then (wear_Between.l0 k l0 a1 (wrap64 (a1 + 1)) 0 0 0) else (some (0, 0, 2)))) else (some (0, 0, 70))) = some (r1, r2, r3) := H
  have A3 := Aside0.mk A30
  clear A30
  by_cases c4 : t493 = true
  · subst c4
    have H1 : ((wear_within.f 0 a1 (wrap64 ((l0.length : Int) - 1))).bind fun t494 => (if t494 = true then (wear_Between.l0 k l0 a1 (wrap64 (a1 + 1)) 0 0 0) else (some (0, 0, 2)))) = some (r1, r2, r3) := by rw [if_pos rfl] at H; exact H
    clear H
    have H := H1
    clear H1
    replace H := Option.bind_eq_some_iff.mp H
    obtain ⟨t494, A50, H⟩ := H
    replace H : (if t494 = true then (wear_Between.l0 k l0 a1 (wrap64 (a1 + 1)) 0 0 0) else (some (0, 0, 2))) = some (r1, r2, r3) := H
    have A5 := Aside0.mk A50
    clear A50
    by_cases c6 : t494 = true
    · subst c6
      have H1 : (wear_Between.l0 k l0 a1 (wrap64 (a1 + 1)) 0 0 0) = some (r1, r2, r3) := by rw [if_pos rfl] at H; exact H
      clear H
      have H := H1
      clear H1
      have H' := Aside0.mk H
      clear H
      go_enter Try.func43, Try.ntmps43
      go_wp2_with (first | ((with_reducible refine gate_dst (N := 4) rfl ?_); refine box_event ?hg (N := 4) ?hd (cs := #[.int .i64 0, .int .i64 0]) (t := 35) ?hr ?_; (case hd => rfl); (case hg => rfl); (case hr => first | (go_simp; done) | (go_simp; rfl)); intro gb492 hg w7 hbox hb; have n0_ := Aside0.mk (below_step (by repeat (first | (with_reducible first | exact HB.out | apply below_alloc | apply pw_below_drewN | apply below_drew1) | exact HB.out)) hb); have n1_ := Aside0.mk (hbox); have n2_ := Aside0.mk ((by rw [hg]; exact (below_size (by repeat (first | (with_reducible first | exact HB.out | apply below_alloc | apply pw_below_drewN | apply below_drew1) | exact HB.out))) : w.heap.size ≤ gb492)); have n3_ := Aside0.mk ((by rw [hg]; exact (below_size (by repeat (first | (with_reducible first | exact HB.out | apply below_alloc | apply pw_below_drewN | apply below_drew1) | exact HB.out))) : w.heap.size ≤ gb492)); clear HB; have HB := n0_; have BK492 := n1_; have GW492 := n2_; have GE492 := n3_; clear n0_ n1_ n2_ n3_; clear hb hbox hg) | ((with_reducible refine gate_callee (f := 27) rfl ?_); refine goesL_ (some 13) rfl rfl Try.func27 (by kernel_rfl) rfl #[.slice A0 l0.length c0] rfl (by (try simp only [List.map_toArray, List.map_cons, List.map_nil]); first | done | rfl | (simp only [List.length_drop, List.length_take]; rfl)) ?_; (with_reducible refine (wear_Valid.calls _ _ l0 true _ ?side1 ?side2 A3.out).mono ?_); (case side1 => repeat (first | exact (Kd.C_below HR0.out HB.out) | (with_reducible refine Kd.C_alloc ?_ _) | (with_reducible refine Kd.C_drewN ?_ _) | (with_reducible refine Kd.C_drew ?_))); (case side2 => exact HC0.out); rintro e w' ⟨rfl, ⟨nd, rfl⟩⟩; refine ⟨_, rfl, ?_⟩) | ((with_reducible refine gate_callee (f := 52) rfl ?_); refine goesL_ (some 21) rfl rfl Try.func52 (by kernel_rfl) rfl #[.int .i64 0, .int .i64 a1, .int .i64 (wrap64 ((l0.length : Int) - 1))] rfl (by (try simp only [List.map_toArray, List.map_cons, List.map_nil]); first | done | rfl | (simp only [List.length_drop, List.length_take]; rfl)) ?_; (with_reducible refine (wear_within.calls 0 a1 (wrap64 ((l0.length : Int) - 1)) true _ A5.out).mono ?_); rintro e w' ⟨rfl, ⟨nd, rfl⟩⟩; refine ⟨_, rfl, ?_⟩) | ((with_reducible refine gate_dst (N := 6) rfl ?_); refine box_event ?hg (N := 6) ?hd (cs := #[.int .i64 0, .int .i64 0]) (t := 35) ?hr ?_; (case hd => rfl); (case hg => rfl); (case hr => first | (go_simp; done) | (go_simp; rfl)); intro gb495 hg w8 hbox hb; have n0_ := Aside0.mk (blk_below (g := gb492) (o := .cells #[.int .i64 0, .int .i64 0] 35 (0, 0)) (by (with_reducible repeat (first | refine blk_drewN ?_ _ | refine blk_drew ?_ | refine blk_alloc ?_ _)); exact BK492.out) hb); have n1_ := Aside0.mk (below_step (by repeat (first | (with_reducible first | exact HB.out | apply below_alloc | apply pw_below_drewN | apply below_drew1 | refine below_set ?_ GE492.out) | exact HB.out)) hb); have n2_ := Aside0.mk (hbox); have n3_ := Aside0.mk ((by rw [hg]; exact (below_size (by repeat (first | (with_reducible first | exact HB.out | apply below_alloc | apply pw_below_drewN | apply below_drew1 | refine below_set ?_ GE492.out) | exact HB.out))) : w.heap.size ≤ gb495)); have n4_ := Aside0.mk ((by rw [hg]; exact (below_size (by repeat (first | (with_reducible first | exact HB.out | apply below_alloc | apply pw_below_drewN | apply below_drew1 | refine below_set ?_ GE492.out) | exact HB.out))) : w.heap.size ≤ gb495)); have n5_ := Aside0.mk ((by rw [hg]; exact Nat.ne_of_lt (blk_lt (g := gb492) (o := .cells #[.int .i64 0, .int .i64 0] 35 (0, 0)) (by (with_reducible repeat (first | refine blk_drewN ?_ _ | refine blk_drew ?_ | refine blk_alloc ?_ _)); exact BK492.out)) : gb492 ≠ gb495)); have n6_ := Aside0.mk ((by rw [hg]; exact Nat.ne_of_gt (blk_lt (g := gb492) (o := .cells #[.int .i64 0, .int .i64 0] 35 (0, 0)) (by (with_reducible repeat (first | refine blk_drewN ?_ _ | refine blk_drew ?_ | refine blk_alloc ?_ _)); exact BK492.out)) : gb495 ≠ gb492)); clear BK492; clear HB; have BK492 := n0_; have HB := n1_; have BK495 := n2_; have GW495 := n3_; have GE495 := n4_; have NB492_495 := n5_; have NB495_492 := n6_; clear n0_ n1_ n2_ n3_ n4_ n5_ n6_; clear hb hbox hg))
      go_loopg [26] k (fun kq v26 w' => ∃ (x26_1 : Int) (x496000_1 : Int) (x496001_1 : Int), v26 = .int .i64 x26_1 ∧ Aside0 (wear_Between.l0 kq l0 a1 (wrap64 (a1 + 1)) x26_1 x496000_1 x496001_1 = some (r1, r2, r3)) ∧ Aside0 (kq ≤ k) ∧ Aside0 (w'.heap[gb492]? = some (.cells #[.int .i64 0, .int .i64 0] 35 (0, 0))) ∧ Aside0 (w'.heap[gb495]? = some (.cells #[.int .i64 x496000_1, .int .i64 x496001_1] 35 (0, 0))) ∧ Aside0 (Below w.heap.size w w'))
      case atStart => exact ⟨(0), (0), (0), (by first | rfl | (simp; done) | (simp [*]; done)), H', ⟨Nat.le_refl _⟩, ⟨by (with_reducible repeat (first | refine blk_drewN ?_ _ | refine blk_drew ?_ | refine blk_alloc ?_ _)); exact BK492.out⟩, ⟨by (with_reducible repeat (first | refine blk_drewN ?_ _ | refine blk_drew ?_ | refine blk_alloc ?_ _)); exact BK495.out⟩, ⟨by repeat (first | (with_reducible first | exact HB.out | apply below_alloc | apply pw_below_drewN | apply below_drew1 | refine below_set ?_ GE492.out | refine below_set ?_ GE495.out) | exact HB.out)⟩⟩
      case round =>
        clear H'
        try clear c2
        try clear p2
        try clear c4
        try clear c5
        try clear c6
        try clear p6
        obtain ⟨x26_1, x496000_1, x496001_1, rfl, HA, HK1, BK492, BK495, HB⟩ := hrel
        cases gk with
        | zero => exact absurd HA.out (by simp [wear_Between.l0])
        | succ k1 =>
          have H := HA.out
          clear HA
          simp only [wear_Between.l0] at H
          by_cases c9 : x26_1 < (wrap64 (a1 + 1))
          · rw [if_pos c9] at H
            have c9b0 : decide (x26_1 < (wrap64 (a1 + 1))) = true := decide_eq_true c9
            clear c9
            by_cases c10 : 0 ≤ x26_1
            · rw [if_pos c10] at H
              have c10b0 := eq_true c10
              have c10b1 : decide (0 ≤ x26_1) = true := decide_eq_true c10
              clear c10
              by_cases c11 : x26_1 ≤ (wrap64 (a1 + 1))
              · rw [if_pos c11] at H
                have c11b0 := eq_true c11
                have c11b1 : decide (x26_1 ≤ (wrap64 (a1 + 1))) = true := decide_eq_true c11
                by_cases c12 : (wrap64 (a1 + 1)) ≤ (l0.length : Int)
                · rw [if_pos c12] at H
                  have c12b0 := eq_true c12
                  have c12b1 : decide ((wrap64 (a1 + 1)) ≤ (l0.length : Int)) = true := decide_eq_true c12
                  replace H := Option.bind_eq_some_iff.mp H
                  obtain ⟨⟨t497, t498⟩, A130, H⟩ := H
                  replace H : (wear_Between.l1 k1 l0 a1 x26_1 (wrap64 (a1 + 1)) (wrap64 (a1 + 1)) x26_1 x496000_1 x496001_1 t497 t498) = some (r1, r2, r3) := H
                  have A13 := Aside0.mk A130
                  clear A130
                  have H' := Aside0.mk H
                  clear H
                  obtain ⟨i014, hi014, _, hsz14, _⟩ := info_parts info3
                  obtain ⟨A14, hcut14, hA14, hC14⟩ := print_mid_of (P := Try.prog) (Value.int .i64) 0 22 3 .i64 .i64 Try.underlying22 hi014 hsz14 A0 c0 l0 x26_1 (wrap64 (a1 + 1)) (of_decide_eq_true (by first | (with_reducible assumption) | assumption)) (by first | omega | exact of_decide_eq_true (by first | (with_reducible assumption) | assumption)) (of_decide_eq_true (by first | (with_reducible assumption) | assumption)) HC0.out
                  have HR496 := Aside0.mk (Kd.C_of_reads (h1 := fun _ => rfl) (hA14 _ (Kd.reads_of_C HR0.out)))
                  have HC496 := Aside0.mk hC14
                  clear hA14 hC14 hi014 hsz14
                  go_wp2_with (first | ((with_reducible refine gate_callee (f := 76) rfl ?_); refine goesL_ (some 34) rfl rfl Try.func76 (by kernel_rfl) rfl #[.slice A14 ((l0.take ((wrap64 (a1 + 1)) : Int).toNat).drop (x26_1 : Int).toNat).length (c0 - x26_1.toNat)] rfl (by (try simp only [List.map_toArray, List.map_cons, List.map_nil]); first | done | (rw [show ((l0.take ((wrap64 (a1 + 1)) : Int).toNat).drop (x26_1 : Int).toNat).length = ((wrap64 (a1 + 1)).toNat - x26_1.toNat) from (by rw [List.length_drop, List.length_take]; have h_ : ((wrap64 (a1 + 1)) : Int) ≤ (l0.length : Int) := of_decide_eq_true (by first | (with_reducible assumption) | assumption); omega)] <;> rfl) | rfl | (simp only [List.length_drop, List.length_take]; rfl)) ?_; (with_reducible refine (wear_mean.calls k1 _ _ ((l0.take ((wrap64 (a1 + 1)) : Int).toNat).drop (x26_1 : Int).toNat) t497 t498 _ ?side1 ?side2 A13.out).mono ?_); (case side1 => repeat (first | exact (Kd.C_below HR496.out HB.out) | (with_reducible refine Kd.C_alloc ?_ _) | (with_reducible refine Kd.C_drewN ?_ _) | (with_reducible refine Kd.C_drew ?_))); (case side2 => exact HC496.out); rintro e w15 ⟨rfl, hb⟩; refine ⟨_, rfl, ?_⟩; have n0_ := Aside0.mk (blk_below (g := gb492) (o := .cells #[.int .i64 0, .int .i64 0] 35 (0, 0)) (by (with_reducible repeat (first | refine blk_drewN ?_ _ | refine blk_drew ?_ | refine blk_alloc ?_ _)); exact BK492.out) hb); have n1_ := Aside0.mk (blk_below (g := gb495) (o := .cells #[.int .i64 x496000_1, .int .i64 x496001_1] 35 (0, 0)) (by (with_reducible repeat (first | refine blk_drewN ?_ _ | refine blk_drew ?_ | refine blk_alloc ?_ _)); exact BK495.out) hb); have n2_ := Aside0.mk (below_step (by repeat (first | (with_reducible first | exact HB.out | apply below_alloc | apply pw_below_drewN | apply below_drew1 | refine below_set ?_ GE492.out | refine below_set ?_ GE495.out) | exact HB.out)) hb); clear BK492; clear BK495; clear HB; have BK492 := n0_; have BK495 := n1_; have HB := n2_; clear n0_ n1_ n2_; (try clear hb); (try clear hb2); (try clear hk); (try clear hi)) | ((with_reducible refine gate_dst (N := 8) rfl ?_); refine box_event ?hg (N := 8) ?hd (cs := #[.int .i64 0, .int .i64 0]) (t := 35) ?hr ?_; (case hd => rfl); (case hg => rfl); (case hr => first | (go_simp; done) | (go_simp; rfl)); intro gb499 hg w16 hbox hb; have n0_ := Aside0.mk (blk_below (g := gb492) (o := .cells #[.int .i64 0, .int .i64 0] 35 (0, 0)) (by (with_reducible repeat (first | refine blk_drewN ?_ _ | refine blk_drew ?_ | refine blk_alloc ?_ _)); exact BK492.out) hb); have n1_ := Aside0.mk (blk_below (g := gb495) (o := .cells #[.int .i64 x496000_1, .int .i64 x496001_1] 35 (0, 0)) (by (with_reducible repeat (first | refine blk_drewN ?_ _ | refine blk_drew ?_ | refine blk_alloc ?_ _)); exact BK495.out) hb); have n2_ := Aside0.mk (below_step (by repeat (first | (with_reducible first | exact HB.out | apply below_alloc | apply pw_below_drewN | apply below_drew1 | refine below_set ?_ GE492.out | refine below_set ?_ GE495.out) | exact HB.out)) hb); have n3_ := Aside0.mk (hbox); have n4_ := Aside0.mk ((by rw [hg]; exact (below_size (by repeat (first | (with_reducible first | exact HB.out | apply below_alloc | apply pw_below_drewN | apply below_drew1 | refine below_set ?_ GE492.out | refine below_set ?_ GE495.out) | exact HB.out))) : w.heap.size ≤ gb499)); have n5_ := Aside0.mk ((by rw [hg]; exact (below_size (by repeat (first | (with_reducible first | exact HB.out | apply below_alloc | apply pw_below_drewN | apply below_drew1 | refine below_set ?_ GE492.out | refine below_set ?_ GE495.out) | exact HB.out))) : w.heap.size ≤ gb499)); have n6_ := Aside0.mk ((by rw [hg]; exact Nat.ne_of_lt (blk_lt (g := gb492) (o := .cells #[.int .i64 0, .int .i64 0] 35 (0, 0)) (by (with_reducible repeat (first | refine blk_drewN ?_ _ | refine blk_drew ?_ | refine blk_alloc ?_ _)); exact BK492.out)) : gb492 ≠ gb499)); have n7_ := Aside0.mk ((by rw [hg]; exact Nat.ne_of_gt (blk_lt (g := gb492) (o := .cells #[.int .i64 0, .int .i64 0] 35 (0, 0)) (by (with_reducible repeat (first | refine blk_drewN ?_ _ | refine blk_drew ?_ | refine blk_alloc ?_ _)); exact BK492.out)) : gb499 ≠ gb492)); have n8_ := Aside0.mk ((by rw [hg]; exact Nat.ne_of_lt (blk_lt (g := gb495) (o := .cells #[.int .i64 x496000_1, .int .i64 x496001_1] 35 (0, 0)) (by (with_reducible repeat (first | refine blk_drewN ?_ _ | refine blk_drew ?_ | refine blk_alloc ?_ _)); exact BK495.out)) : gb495 ≠ gb499)); have n9_ := Aside0.mk ((by rw [hg]; exact Nat.ne_of_gt (blk_lt (g := gb495) (o := .cells #[.int .i64 x496000_1, .int .i64 x496001_1] 35 (0, 0)) (by (with_reducible repeat (first | refine blk_drewN ?_ _ | refine blk_drew ?_ | refine blk_alloc ?_ _)); exact BK495.out)) : gb499 ≠ gb495)); clear BK492; clear BK495; clear HB; have BK492 := n0_; have BK495 := n1_; have HB := n2_; have BK499 := n3_; have GW499 := n4_; have GE499 := n5_; have NB492_499 := n6_; have NB499_492 := n7_; have NB495_499 := n8_; have NB499_495 := n9_; clear n0_ n1_ n2_ n3_ n4_ n5_ n6_ n7_ n8_ n9_; clear hb hbox hg; have hnb17 := NB499_492.out; have hnc17 := NB492_499.out; have hnb18 := NB499_495.out; have hnc18 := NB495_499.out; have hcz19_0 : w16.cell? ⟨gb499, 0, none⟩ = some (.int .i64 0) := (blk_cell BK499.out 0).trans rfl; have hcz19_1 : w16.cell? ⟨gb499, 1, none⟩ = some (.int .i64 0) := (blk_cell BK499.out 1).trans rfl; have hfz19_0 := blk_frozen BK499.out 0; have hfz19_1 := blk_frozen BK499.out 1))
                  go_loopg [9] k1 (fun kq v9 w' => ∃ (x9_2 : Int) (x500000_2 : Int) (x500001_2 : Int), v9 = .int .i64 x9_2 ∧ Aside0 (wear_Between.l1 kq l0 a1 x26_1 x9_2 (wrap64 (a1 + 1)) x26_1 x496000_1 x496001_1 x500000_2 x500001_2 = some (r1, r2, r3)) ∧ Aside0 (kq ≤ k1) ∧ Aside0 (w'.heap[gb492]? = some (.cells #[.int .i64 0, .int .i64 0] 35 (0, 0))) ∧ Aside0 (w'.heap[gb495]? = some (.cells #[.int .i64 x496000_1, .int .i64 x496001_1] 35 (0, 0))) ∧ Aside0 (w'.heap[gb499]? = some (.cells #[.int .i64 x500000_2, .int .i64 x500001_2] 35 (0, 0))) ∧ Aside0 (Below w.heap.size w w'))
                  case atStart => exact ⟨(wrap64 (a1 + 1)), (t497), (t498), (by first | rfl | (simp; done) | (simp [*]; done)), H', ⟨Nat.le_refl _⟩, ⟨by (with_reducible repeat (first | refine blk_drewN ?_ _ | refine blk_drew ?_ | refine blk_alloc ?_ _)); refine blk_far ?_ NB492_499.out _; (with_reducible repeat (first | refine blk_drewN ?_ _ | refine blk_drew ?_ | refine blk_alloc ?_ _)); refine blk_far ?_ NB492_499.out _; (with_reducible repeat (first | refine blk_drewN ?_ _ | refine blk_drew ?_ | refine blk_alloc ?_ _)); exact BK492.out⟩, ⟨by (with_reducible repeat (first | refine blk_drewN ?_ _ | refine blk_drew ?_ | refine blk_alloc ?_ _)); refine blk_far ?_ NB495_499.out _; (with_reducible repeat (first | refine blk_drewN ?_ _ | refine blk_drew ?_ | refine blk_alloc ?_ _)); refine blk_far ?_ NB495_499.out _; (with_reducible repeat (first | refine blk_drewN ?_ _ | refine blk_drew ?_ | refine blk_alloc ?_ _)); exact BK495.out⟩, ⟨by (with_reducible repeat (first | refine blk_drewN ?_ _ | refine blk_drew ?_ | refine blk_alloc ?_ _)); refine blk_put (cs := #[.int .i64 t497, .int .i64 0]) ?_ 1 _ rfl; (with_reducible repeat (first | refine blk_drewN ?_ _ | refine blk_drew ?_ | refine blk_alloc ?_ _)); refine blk_put (cs := #[.int .i64 0, .int .i64 0]) ?_ 0 _ rfl; (with_reducible repeat (first | refine blk_drewN ?_ _ | refine blk_drew ?_ | refine blk_alloc ?_ _)); exact BK499.out⟩, ⟨by repeat (first | (with_reducible first | exact HB.out | apply below_alloc | apply pw_below_drewN | apply below_drew1 | refine below_set ?_ GE492.out | refine below_set ?_ GE495.out | refine below_set ?_ GE499.out) | exact HB.out)⟩⟩
                  case round =>
                    clear H'
                    try clear c1
                    try clear c2
                    try clear p2
                    try clear c4
                    try clear c5
                    try clear c6
                    try clear p6
                    try clear c7
                    try clear c9
                    try clear c9b0
                    try clear c10
                    try clear c10b0
                    try clear c10b1
                    try clear c11
                    try clear c11b0
                    try clear c11b1
                    try clear c12
                    try clear c12b0
                    try clear c12b1
                    try clear c17
                    try clear c18
                    try clear hcz19_0
                    try clear hcz19_1
                    try clear hfz19_0
                    try clear hfz19_1
                    try clear p2
                    try clear p6
                    obtain ⟨x9_2, x500000_2, x500001_2, rfl, HA, HK2, BK492, BK495, BK499, HB⟩ := hrel
                    cases gk with
                    | zero => exact absurd HA.out (by simp [wear_Between.l1])
                    | succ k2 =>
                      have H := HA.out
                      clear HA
                      simp only [wear_Between.l1] at H
                      by_cases c20 : x9_2 < (l0.length : Int)
                      · rw [if_pos c20] at H
                        have c20b0 : decide (x9_2 < (l0.length : Int)) = true := decide_eq_true c20
                        clear c20
                        by_cases c21 : 0 ≤ x26_1
                        · rw [if_pos c21] at H
                          have c21b0 := eq_true c21
                          have c21b1 : decide (0 ≤ x26_1) = true := decide_eq_true c21
                          clear c21
                          by_cases c22 : x26_1 ≤ (wrap64 (x9_2 + 1))
                          · rw [if_pos c22] at H
                            have c22b0 := eq_true c22
                            have c22b1 : decide (x26_1 ≤ (wrap64 (x9_2 + 1))) = true := decide_eq_true c22
                            by_cases c23 : (wrap64 (x9_2 + 1)) ≤ (l0.length : Int)
                            · rw [if_pos c23] at H
                              have c23b0 := eq_true c23
                              have c23b1 : decide ((wrap64 (x9_2 + 1)) ≤ (l0.length : Int)) = true := decide_eq_true c23
                              replace H := Option.bind_eq_some_iff.mp H
                              obtain ⟨⟨t502, t503⟩, A240, H⟩ := H
                              replace H : ((wear_less.f t502 t503 x500000_2 x500001_2).bind fun t505 => (if t505 = true then (wear_Between.l1 k2 l0 a1 x26_1 (wrap64 (x9_2 + 1)) (wrap64 (a1 + 1)) x26_1 x496000_1 x496001_1 t502 t503) else (wear_Between.l1 k2 l0 a1 x26_1 (wrap64 (x9_2 + 1)) (wrap64 (a1 + 1)) x26_1 x496000_1 x496001_1 x500000_2 x500001_2))) = some (r1, r2, r3) := H
                              have A24 := Aside0.mk A240
                              clear A240
                              replace H := Option.bind_eq_some_iff.mp H
                              obtain ⟨t505, A250, H⟩ := H
                              replace H : (if t505 = true then (wear_Between.l1 k2 l0 a1 x26_1 (wrap64 (x9_2 + 1)) (wrap64 (a1 + 1)) x26_1 x496000_1 x496001_1 t502 t503) else (wear_Between.l1 k2 l0 a1 x26_1 (wrap64 (x9_2 + 1)) (wrap64 (a1 + 1)) x26_1 x496000_1 x496001_1 x500000_2 x500001_2)) = some (r1, r2, r3) := H
                              have A25 := Aside0.mk A250
                              clear A250
                              by_cases c26 : t505 = true
                              · subst c26
                                have H1 : (wear_Between.l1 k2 l0 a1 x26_1 (wrap64 (x9_2 + 1)) (wrap64 (a1 + 1)) x26_1 x496000_1 x496001_1 t502 t503) = some (r1, r2, r3) := by rw [if_pos rfl] at H; exact H
                                clear H
                                have H := H1
                                clear H1
                                have H' := Aside0.mk H
                                clear H
                                obtain ⟨i027, hi027, _, hsz27, _⟩ := info_parts info3
                                obtain ⟨A27, hcut27, hA27, hC27⟩ := print_mid_of (P := Try.prog) (Value.int .i64) 0 22 3 .i64 .i64 Try.underlying22 hi027 hsz27 A0 c0 l0 x26_1 (wrap64 (x9_2 + 1)) (of_decide_eq_true (by first | (with_reducible assumption) | assumption)) (by first | omega | exact of_decide_eq_true (by first | (with_reducible assumption) | assumption)) (of_decide_eq_true (by first | (with_reducible assumption) | assumption)) HC0.out
                                have HR501 := Aside0.mk (Kd.C_of_reads (h1 := fun _ => rfl) (hA27 _ (Kd.reads_of_C HR0.out)))
                                have HC501 := Aside0.mk hC27
                                clear hA27 hC27 hi027 hsz27
                                go_wp2_with (first | ((with_reducible refine gate_callee (f := 76) rfl ?_); refine goesL_ (some 48) rfl rfl Try.func76 (by kernel_rfl) rfl #[.slice A27 ((l0.take ((wrap64 (x9_2 + 1)) : Int).toNat).drop (x26_1 : Int).toNat).length (c0 - x26_1.toNat)] rfl (by (try simp only [List.map_toArray, List.map_cons, List.map_nil]); first | done | (rw [show ((l0.take ((wrap64 (x9_2 + 1)) : Int).toNat).drop (x26_1 : Int).toNat).length = ((wrap64 (x9_2 + 1)).toNat - x26_1.toNat) from (by rw [List.length_drop, List.length_take]; have h_ : ((wrap64 (x9_2 + 1)) : Int) ≤ (l0.length : Int) := of_decide_eq_true (by first | (with_reducible assumption) | assumption); omega)] <;> rfl) | rfl | (simp only [List.length_drop, List.length_take]; rfl)) ?_; (with_reducible refine (wear_mean.calls k2 _ _ ((l0.take ((wrap64 (x9_2 + 1)) : Int).toNat).drop (x26_1 : Int).toNat) t502 t503 _ ?side1 ?side2 A24.out).mono ?_); (case side1 => repeat (first | exact (Kd.C_below HR501.out HB.out) | (with_reducible refine Kd.C_alloc ?_ _) | (with_reducible refine Kd.C_drewN ?_ _) | (with_reducible refine Kd.C_drew ?_))); (case side2 => exact HC501.out); rintro e w28 ⟨rfl, hb⟩; refine ⟨_, rfl, ?_⟩; have n0_ := Aside0.mk (blk_below (g := gb492) (o := .cells #[.int .i64 0, .int .i64 0] 35 (0, 0)) (by (with_reducible repeat (first | refine blk_drewN ?_ _ | refine blk_drew ?_ | refine blk_alloc ?_ _)); exact BK492.out) hb); have n1_ := Aside0.mk (blk_below (g := gb495) (o := .cells #[.int .i64 x496000_1, .int .i64 x496001_1] 35 (0, 0)) (by (with_reducible repeat (first | refine blk_drewN ?_ _ | refine blk_drew ?_ | refine blk_alloc ?_ _)); exact BK495.out) hb); have n2_ := Aside0.mk (blk_below (g := gb499) (o := .cells #[.int .i64 x500000_2, .int .i64 x500001_2] 35 (0, 0)) (by (with_reducible repeat (first | refine blk_drewN ?_ _ | refine blk_drew ?_ | refine blk_alloc ?_ _)); exact BK499.out) hb); have n3_ := Aside0.mk (below_step (by repeat (first | (with_reducible first | exact HB.out | apply below_alloc | apply pw_below_drewN | apply below_drew1 | refine below_set ?_ GE492.out | refine below_set ?_ GE495.out | refine below_set ?_ GE499.out) | exact HB.out)) hb); clear BK492; clear BK495; clear BK499; clear HB; have BK492 := n0_; have BK495 := n1_; have BK499 := n2_; have HB := n3_; clear n0_ n1_ n2_ n3_; (try clear hb); (try clear hb2); (try clear hk); (try clear hi)) | ((with_reducible refine gate_dst (N := 10) rfl ?_); refine box_event ?hg (N := 10) ?hd (cs := #[.int .i64 0, .int .i64 0]) (t := 35) ?hr ?_; (case hd => rfl); (case hg => rfl); (case hr => first | (go_simp; done) | (go_simp; rfl)); intro gb504 hg w29 hbox hb; have n0_ := Aside0.mk (blk_below (g := gb492) (o := .cells #[.int .i64 0, .int .i64 0] 35 (0, 0)) (by (with_reducible repeat (first | refine blk_drewN ?_ _ | refine blk_drew ?_ | refine blk_alloc ?_ _)); exact BK492.out) hb); have n1_ := Aside0.mk (blk_below (g := gb495) (o := .cells #[.int .i64 x496000_1, .int .i64 x496001_1] 35 (0, 0)) (by (with_reducible repeat (first | refine blk_drewN ?_ _ | refine blk_drew ?_ | refine blk_alloc ?_ _)); exact BK495.out) hb); have n2_ := Aside0.mk (blk_below (g := gb499) (o := .cells #[.int .i64 x500000_2, .int .i64 x500001_2] 35 (0, 0)) (by (with_reducible repeat (first | refine blk_drewN ?_ _ | refine blk_drew ?_ | refine blk_alloc ?_ _)); exact BK499.out) hb); have n3_ := Aside0.mk (below_step (by repeat (first | (with_reducible first | exact HB.out | apply below_alloc | apply pw_below_drewN | apply below_drew1 | refine below_set ?_ GE492.out | refine below_set ?_ GE495.out | refine below_set ?_ GE499.out) | exact HB.out)) hb); have n4_ := Aside0.mk (hbox); have n5_ := Aside0.mk ((by rw [hg]; exact (below_size (by repeat (first | (with_reducible first | exact HB.out | apply below_alloc | apply pw_below_drewN | apply below_drew1 | refine below_set ?_ GE492.out | refine below_set ?_ GE495.out | refine below_set ?_ GE499.out) | exact HB.out))) : w.heap.size ≤ gb504)); have n6_ := Aside0.mk ((by rw [hg]; exact (below_size (by repeat (first | (with_reducible first | exact HB.out | apply below_alloc | apply pw_below_drewN | apply below_drew1 | refine below_set ?_ GE492.out | refine below_set ?_ GE495.out | refine below_set ?_ GE499.out) | exact HB.out))) : w.heap.size ≤ gb504)); have n7_ := Aside0.mk ((by rw [hg]; exact Nat.ne_of_lt (blk_lt (g := gb492) (o := .cells #[.int .i64 0, .int .i64 0] 35 (0, 0)) (by (with_reducible repeat (first | refine blk_drewN ?_ _ | refine blk_drew ?_ | refine blk_alloc ?_ _)); exact BK492.out)) : gb492 ≠ gb504)); have n8_ := Aside0.mk ((by rw [hg]; exact Nat.ne_of_gt (blk_lt (g := gb492) (o := .cells #[.int .i64 0, .int .i64 0] 35 (0, 0)) (by (with_reducible repeat (first | refine blk_drewN ?_ _ | refine blk_drew ?_ | refine blk_alloc ?_ _)); exact BK492.out)) : gb504 ≠ gb492)); have n9_ := Aside0.mk ((by rw [hg]; exact Nat.ne_of_lt (blk_lt (g := gb495) (o := .cells #[.int .i64 x496000_1, .int .i64 x496001_1] 35 (0, 0)) (by (with_reducible repeat (first | refine blk_drewN ?_ _ | refine blk_drew ?_ | refine blk_alloc ?_ _)); exact BK495.out)) : gb495 ≠ gb504)); have n10_ := Aside0.mk ((by rw [hg]; exact Nat.ne_of_gt (blk_lt (g := gb495) (o := .cells #[.int .i64 x496000_1, .int .i64 x496001_1] 35 (0, 0)) (by (with_reducible repeat (first | refine blk_drewN ?_ _ | refine blk_drew ?_ | refine blk_alloc ?_ _)); exact BK495.out)) : gb504 ≠ gb495)); have n11_ := Aside0.mk ((by rw [hg]; exact Nat.ne_of_lt (blk_lt (g := gb499) (o := .cells #[.int .i64 x500000_2, .int .i64 x500001_2] 35 (0, 0)) (by (with_reducible repeat (first | refine blk_drewN ?_ _ | refine blk_drew ?_ | refine blk_alloc ?_ _)); exact BK499.out)) : gb499 ≠ gb504)); have n12_ := Aside0.mk ((by rw [hg]; exact Nat.ne_of_gt (blk_lt (g := gb499) (o := .cells #[.int .i64 x500000_2, .int .i64 x500001_2] 35 (0, 0)) (by (with_reducible repeat (first | refine blk_drewN ?_ _ | refine blk_drew ?_ | refine blk_alloc ?_ _)); exact BK499.out)) : gb504 ≠ gb499)); clear BK492; clear BK495; clear BK499; clear HB; have BK492 := n0_; have BK495 := n1_; have BK499 := n2_; have HB := n3_; have BK504 := n4_; have GW504 := n5_; have GE504 := n6_; have NB492_504 := n7_; have NB504_492 := n8_; have NB495_504 := n9_; have NB504_495 := n10_; have NB499_504 := n11_; have NB504_499 := n12_; clear n0_ n1_ n2_ n3_ n4_ n5_ n6_ n7_ n8_ n9_ n10_ n11_ n12_; clear hb hbox hg; have hnb30 := NB504_492.out; have hnc30 := NB492_504.out; have hnb31 := NB504_495.out; have hnc31 := NB495_504.out; have hnb32 := NB504_499.out; have hnc32 := NB499_504.out; have hcz33_0 : w29.cell? ⟨gb504, 0, none⟩ = some (.int .i64 0) := (blk_cell BK504.out 0).trans rfl; have hcz33_1 : w29.cell? ⟨gb504, 1, none⟩ = some (.int .i64 0) := (blk_cell BK504.out 1).trans rfl; have hfz33_0 := blk_frozen BK504.out 0; have hfz33_1 := blk_frozen BK504.out 1; have hnb34 := NB499_492.out; have hnc34 := NB492_499.out; have hnb35 := NB499_495.out; have hnc35 := NB495_499.out; have hcz36_0 : w29.cell? ⟨gb499, 0, none⟩ = some (.int .i64 x500000_2) := (blk_cell BK499.out 0).trans rfl; have hcz36_1 : w29.cell? ⟨gb499, 1, none⟩ = some (.int .i64 x500001_2) := (blk_cell BK499.out 1).trans rfl; have hfz36_0 := blk_frozen BK499.out 0; have hfz36_1 := blk_frozen BK499.out 1) | ((with_reducible refine gate_callee (f := 78) rfl ?_); refine goesL_ (some 51) rfl rfl Try.func78 (by kernel_rfl) rfl #[.agg #[.int .i64 t502, .int .i64 t503], .agg #[.int .i64 x500000_2, .int .i64 x500001_2]] rfl (by (try simp only [List.map_toArray, List.map_cons, List.map_nil]); first | done | rfl | (simp only [List.length_drop, List.length_take]; rfl)) ?_; (with_reducible refine (wear_less.calls t502 t503 x500000_2 x500001_2 true _ A25.out).mono ?_); rintro e w37 ⟨rfl, hb⟩; refine ⟨_, rfl, ?_⟩; have n0_ := Aside0.mk (blk_below (g := gb492) (o := .cells #[.int .i64 0, .int .i64 0] 35 (0, 0)) (by (with_reducible repeat (first | refine blk_drewN ?_ _ | refine blk_drew ?_ | refine blk_alloc ?_ _)); refine blk_far ?_ NB492_504.out _; (with_reducible repeat (first | refine blk_drewN ?_ _ | refine blk_drew ?_ | refine blk_alloc ?_ _)); refine blk_far ?_ NB492_504.out _; (with_reducible repeat (first | refine blk_drewN ?_ _ | refine blk_drew ?_ | refine blk_alloc ?_ _)); exact BK492.out) hb); have n1_ := Aside0.mk (blk_below (g := gb495) (o := .cells #[.int .i64 x496000_1, .int .i64 x496001_1] 35 (0, 0)) (by (with_reducible repeat (first | refine blk_drewN ?_ _ | refine blk_drew ?_ | refine blk_alloc ?_ _)); refine blk_far ?_ NB495_504.out _; (with_reducible repeat (first | refine blk_drewN ?_ _ | refine blk_drew ?_ | refine blk_alloc ?_ _)); refine blk_far ?_ NB495_504.out _; (with_reducible repeat (first | refine blk_drewN ?_ _ | refine blk_drew ?_ | refine blk_alloc ?_ _)); exact BK495.out) hb); have n2_ := Aside0.mk (blk_below (g := gb499) (o := .cells #[.int .i64 x500000_2, .int .i64 x500001_2] 35 (0, 0)) (by (with_reducible repeat (first | refine blk_drewN ?_ _ | refine blk_drew ?_ | refine blk_alloc ?_ _)); refine blk_far ?_ NB499_504.out _; (with_reducible repeat (first | refine blk_drewN ?_ _ | refine blk_drew ?_ | refine blk_alloc ?_ _)); refine blk_far ?_ NB499_504.out _; (with_reducible repeat (first | refine blk_drewN ?_ _ | refine blk_drew ?_ | refine blk_alloc ?_ _)); exact BK499.out) hb); have n3_ := Aside0.mk (blk_below (g := gb504) (o := .cells #[.int .i64 t502, .int .i64 t503] 35 (0, 0)) (by (with_reducible repeat (first | refine blk_drewN ?_ _ | refine blk_drew ?_ | refine blk_alloc ?_ _)); refine blk_put (cs := #[.int .i64 t502, .int .i64 0]) ?_ 1 _ rfl; (with_reducible repeat (first | refine blk_drewN ?_ _ | refine blk_drew ?_ | refine blk_alloc ?_ _)); refine blk_put (cs := #[.int .i64 0, .int .i64 0]) ?_ 0 _ rfl; (with_reducible repeat (first | refine blk_drewN ?_ _ | refine blk_drew ?_ | refine blk_alloc ?_ _)); exact BK504.out) hb); have n4_ := Aside0.mk (below_step (by repeat (first | (with_reducible first | exact HB.out | apply below_alloc | apply pw_below_drewN | apply below_drew1 | refine below_set ?_ GE492.out | refine below_set ?_ GE495.out | refine below_set ?_ GE499.out | refine below_set ?_ GE504.out) | exact HB.out)) hb); clear BK492; clear BK495; clear BK499; clear BK504; clear HB; have BK492 := n0_; have BK495 := n1_; have BK499 := n2_; have BK504 := n3_; have HB := n4_; clear n0_ n1_ n2_ n3_ n4_; (try clear hb); (try clear hb2); (try clear hk); (try clear hi); have hcz38_0 : w37.cell? ⟨gb504, 0, none⟩ = some (.int .i64 t502) := (blk_cell BK504.out 0).trans rfl; have hcz38_1 : w37.cell? ⟨gb504, 1, none⟩ = some (.int .i64 t503) := (blk_cell BK504.out 1).trans rfl; have hfz38_0 := blk_frozen BK504.out 0; have hfz38_1 := blk_frozen BK504.out 1; have hcz39_0 : w37.cell? ⟨gb499, 0, none⟩ = some (.int .i64 x500000_2) := (blk_cell BK499.out 0).trans rfl; have hcz39_1 : w37.cell? ⟨gb499, 1, none⟩ = some (.int .i64 x500001_2) := (blk_cell BK499.out 1).trans rfl; have hfz39_0 := blk_frozen BK499.out 0; have hfz39_1 := blk_frozen BK499.out 1))
                                go_roundg k2
                                case measure => have := HK1.out; have := HK2.out; omega
                                case rel => exact ⟨(wrap64 (x9_2 + 1)), (t502), (t503), (by first | rfl | (simp; done) | (simp [*]; done)), H', ⟨by have := HK1.out; have := HK2.out; omega⟩, ⟨by (with_reducible repeat (first | refine blk_drewN ?_ _ | refine blk_drew ?_ | refine blk_alloc ?_ _)); refine blk_far ?_ NB492_499.out _; (with_reducible repeat (first | refine blk_drewN ?_ _ | refine blk_drew ?_ | refine blk_alloc ?_ _)); refine blk_far ?_ NB492_499.out _; (with_reducible repeat (first | refine blk_drewN ?_ _ | refine blk_drew ?_ | refine blk_alloc ?_ _)); exact BK492.out⟩, ⟨by (with_reducible repeat (first | refine blk_drewN ?_ _ | refine blk_drew ?_ | refine blk_alloc ?_ _)); refine blk_far ?_ NB495_499.out _; (with_reducible repeat (first | refine blk_drewN ?_ _ | refine blk_drew ?_ | refine blk_alloc ?_ _)); refine blk_far ?_ NB495_499.out _; (with_reducible repeat (first | refine blk_drewN ?_ _ | refine blk_drew ?_ | refine blk_alloc ?_ _)); exact BK495.out⟩, ⟨by (with_reducible repeat (first | refine blk_drewN ?_ _ | refine blk_drew ?_ | refine blk_alloc ?_ _)); refine blk_put (cs := #[.int .i64 t502, .int .i64 x500001_2]) ?_ 1 _ rfl; (with_reducible repeat (first | refine blk_drewN ?_ _ | refine blk_drew ?_ | refine blk_alloc ?_ _)); refine blk_put (cs := #[.int .i64 x500000_2, .int .i64 x500001_2]) ?_ 0 _ rfl; (with_reducible repeat (first | refine blk_drewN ?_ _ | refine blk_drew ?_ | refine blk_alloc ?_ _)); exact BK499.out⟩, ⟨by repeat (first | (with_reducible first | exact HB.out | apply below_alloc | apply pw_below_drewN | apply below_drew1 | refine below_set ?_ GE492.out | refine below_set ?_ GE495.out | refine below_set ?_ GE499.out | refine below_set ?_ GE504.out) | exact HB.out)⟩⟩
                              · replace c26 := Bool.eq_false_iff.mpr c26
                                subst c26
                                have H1 : (wear_Between.l1 k2 l0 a1 x26_1 (wrap64 (x9_2 + 1)) (wrap64 (a1 + 1)) x26_1 x496000_1 x496001_1 x500000_2 x500001_2) = some (r1, r2, r3) := by rw [if_neg (show ¬ (false = true) by decide)] at H; exact H
                                clear H
                                have H := H1
                                clear H1
                                have H' := Aside0.mk H
                                clear H
                                obtain ⟨i040, hi040, _, hsz40, _⟩ := info_parts info3
                                obtain ⟨A40, hcut40, hA40, hC40⟩ := print_mid_of (P := Try.prog) (Value.int .i64) 0 22 3 .i64 .i64 Try.underlying22 hi040 hsz40 A0 c0 l0 x26_1 (wrap64 (x9_2 + 1)) (of_decide_eq_true (by first | (with_reducible assumption) | assumption)) (by first | omega | exact of_decide_eq_true (by first | (with_reducible assumption) | assumption)) (of_decide_eq_true (by first | (with_reducible assumption) | assumption)) HC0.out
                                have HR501 := Aside0.mk (Kd.C_of_reads (h1 := fun _ => rfl) (hA40 _ (Kd.reads_of_C HR0.out)))
                                have HC501 := Aside0.mk hC40
                                clear hA40 hC40 hi040 hsz40
                                go_wp2_with (first | ((with_reducible refine gate_callee (f := 76) rfl ?_); refine goesL_ (some 48) rfl rfl Try.func76 (by kernel_rfl) rfl #[.slice A40 ((l0.take ((wrap64 (x9_2 + 1)) : Int).toNat).drop (x26_1 : Int).toNat).length (c0 - x26_1.toNat)] rfl (by (try simp only [List.map_toArray, List.map_cons, List.map_nil]); first | done | (rw [show ((l0.take ((wrap64 (x9_2 + 1)) : Int).toNat).drop (x26_1 : Int).toNat).length = ((wrap64 (x9_2 + 1)).toNat - x26_1.toNat) from (by rw [List.length_drop, List.length_take]; have h_ : ((wrap64 (x9_2 + 1)) : Int) ≤ (l0.length : Int) := of_decide_eq_true (by first | (with_reducible assumption) | assumption); omega)] <;> rfl) | rfl | (simp only [List.length_drop, List.length_take]; rfl)) ?_; (with_reducible refine (wear_mean.calls k2 _ _ ((l0.take ((wrap64 (x9_2 + 1)) : Int).toNat).drop (x26_1 : Int).toNat) t502 t503 _ ?side1 ?side2 A24.out).mono ?_); (case side1 => repeat (first | exact (Kd.C_below HR501.out HB.out) | (with_reducible refine Kd.C_alloc ?_ _) | (with_reducible refine Kd.C_drewN ?_ _) | (with_reducible refine Kd.C_drew ?_))); (case side2 => exact HC501.out); rintro e w41 ⟨rfl, hb⟩; refine ⟨_, rfl, ?_⟩; have n0_ := Aside0.mk (blk_below (g := gb492) (o := .cells #[.int .i64 0, .int .i64 0] 35 (0, 0)) (by (with_reducible repeat (first | refine blk_drewN ?_ _ | refine blk_drew ?_ | refine blk_alloc ?_ _)); exact BK492.out) hb); have n1_ := Aside0.mk (blk_below (g := gb495) (o := .cells #[.int .i64 x496000_1, .int .i64 x496001_1] 35 (0, 0)) (by (with_reducible repeat (first | refine blk_drewN ?_ _ | refine blk_drew ?_ | refine blk_alloc ?_ _)); exact BK495.out) hb); have n2_ := Aside0.mk (blk_below (g := gb499) (o := .cells #[.int .i64 x500000_2, .int .i64 x500001_2] 35 (0, 0)) (by (with_reducible repeat (first | refine blk_drewN ?_ _ | refine blk_drew ?_ | refine blk_alloc ?_ _)); exact BK499.out) hb); have n3_ := Aside0.mk (below_step (by repeat (first | (with_reducible first | exact HB.out | apply below_alloc | apply pw_below_drewN | apply below_drew1 | refine below_set ?_ GE492.out | refine below_set ?_ GE495.out | refine below_set ?_ GE499.out) | exact HB.out)) hb); clear BK492; clear BK495; clear BK499; clear HB; have BK492 := n0_; have BK495 := n1_; have BK499 := n2_; have HB := n3_; clear n0_ n1_ n2_ n3_; (try clear hb); (try clear hb2); (try clear hk); (try clear hi)) | ((with_reducible refine gate_dst (N := 10) rfl ?_); refine box_event ?hg (N := 10) ?hd (cs := #[.int .i64 0, .int .i64 0]) (t := 35) ?hr ?_; (case hd => rfl); (case hg => rfl); (case hr => first | (go_simp; done) | (go_simp; rfl)); intro gb504 hg w42 hbox hb; have n0_ := Aside0.mk (blk_below (g := gb492) (o := .cells #[.int .i64 0, .int .i64 0] 35 (0, 0)) (by (with_reducible repeat (first | refine blk_drewN ?_ _ | refine blk_drew ?_ | refine blk_alloc ?_ _)); exact BK492.out) hb); have n1_ := Aside0.mk (blk_below (g := gb495) (o := .cells #[.int .i64 x496000_1, .int .i64 x496001_1] 35 (0, 0)) (by (with_reducible repeat (first | refine blk_drewN ?_ _ | refine blk_drew ?_ | refine blk_alloc ?_ _)); exact BK495.out) hb); have n2_ := Aside0.mk (blk_below (g := gb499) (o := .cells #[.int .i64 x500000_2, .int .i64 x500001_2] 35 (0, 0)) (by (with_reducible repeat (first | refine blk_drewN ?_ _ | refine blk_drew ?_ | refine blk_alloc ?_ _)); exact BK499.out) hb); have n3_ := Aside0.mk (below_step (by repeat (first | (with_reducible first | exact HB.out | apply below_alloc | apply pw_below_drewN | apply below_drew1 | refine below_set ?_ GE492.out | refine below_set ?_ GE495.out | refine below_set ?_ GE499.out) | exact HB.out)) hb); have n4_ := Aside0.mk (hbox); have n5_ := Aside0.mk ((by rw [hg]; exact (below_size (by repeat (first | (with_reducible first | exact HB.out | apply below_alloc | apply pw_below_drewN | apply below_drew1 | refine below_set ?_ GE492.out | refine below_set ?_ GE495.out | refine below_set ?_ GE499.out) | exact HB.out))) : w.heap.size ≤ gb504)); have n6_ := Aside0.mk ((by rw [hg]; exact (below_size (by repeat (first | (with_reducible first | exact HB.out | apply below_alloc | apply pw_below_drewN | apply below_drew1 | refine below_set ?_ GE492.out | refine below_set ?_ GE495.out | refine below_set ?_ GE499.out) | exact HB.out))) : w.heap.size ≤ gb504)); have n7_ := Aside0.mk ((by rw [hg]; exact Nat.ne_of_lt (blk_lt (g := gb492) (o := .cells #[.int .i64 0, .int .i64 0] 35 (0, 0)) (by (with_reducible repeat (first | refine blk_drewN ?_ _ | refine blk_drew ?_ | refine blk_alloc ?_ _)); exact BK492.out)) : gb492 ≠ gb504)); have n8_ := Aside0.mk ((by rw [hg]; exact Nat.ne_of_gt (blk_lt (g := gb492) (o := .cells #[.int .i64 0, .int .i64 0] 35 (0, 0)) (by (with_reducible repeat (first | refine blk_drewN ?_ _ | refine blk_drew ?_ | refine blk_alloc ?_ _)); exact BK492.out)) : gb504 ≠ gb492)); have n9_ := Aside0.mk ((by rw [hg]; exact Nat.ne_of_lt (blk_lt (g := gb495) (o := .cells #[.int .i64 x496000_1, .int .i64 x496001_1] 35 (0, 0)) (by (with_reducible repeat (first | refine blk_drewN ?_ _ | refine blk_drew ?_ | refine blk_alloc ?_ _)); exact BK495.out)) : gb495 ≠ gb504)); have n10_ := Aside0.mk ((by rw [hg]; exact Nat.ne_of_gt (blk_lt (g := gb495) (o := .cells #[.int .i64 x496000_1, .int .i64 x496001_1] 35 (0, 0)) (by (with_reducible repeat (first | refine blk_drewN ?_ _ | refine blk_drew ?_ | refine blk_alloc ?_ _)); exact BK495.out)) : gb504 ≠ gb495)); have n11_ := Aside0.mk ((by rw [hg]; exact Nat.ne_of_lt (blk_lt (g := gb499) (o := .cells #[.int .i64 x500000_2, .int .i64 x500001_2] 35 (0, 0)) (by (with_reducible repeat (first | refine blk_drewN ?_ _ | refine blk_drew ?_ | refine blk_alloc ?_ _)); exact BK499.out)) : gb499 ≠ gb504)); have n12_ := Aside0.mk ((by rw [hg]; exact Nat.ne_of_gt (blk_lt (g := gb499) (o := .cells #[.int .i64 x500000_2, .int .i64 x500001_2] 35 (0, 0)) (by (with_reducible repeat (first | refine blk_drewN ?_ _ | refine blk_drew ?_ | refine blk_alloc ?_ _)); exact BK499.out)) : gb504 ≠ gb499)); clear BK492; clear BK495; clear BK499; clear HB; have BK492 := n0_; have BK495 := n1_; have BK499 := n2_; have HB := n3_; have BK504 := n4_; have GW504 := n5_; have GE504 := n6_; have NB492_504 := n7_; have NB504_492 := n8_; have NB495_504 := n9_; have NB504_495 := n10_; have NB499_504 := n11_; have NB504_499 := n12_; clear n0_ n1_ n2_ n3_ n4_ n5_ n6_ n7_ n8_ n9_ n10_ n11_ n12_; clear hb hbox hg; have hnb43 := NB504_492.out; have hnc43 := NB492_504.out; have hnb44 := NB504_495.out; have hnc44 := NB495_504.out; have hnb45 := NB504_499.out; have hnc45 := NB499_504.out; have hcz46_0 : w42.cell? ⟨gb504, 0, none⟩ = some (.int .i64 0) := (blk_cell BK504.out 0).trans rfl; have hcz46_1 : w42.cell? ⟨gb504, 1, none⟩ = some (.int .i64 0) := (blk_cell BK504.out 1).trans rfl; have hfz46_0 := blk_frozen BK504.out 0; have hfz46_1 := blk_frozen BK504.out 1; have hnb47 := NB499_492.out; have hnc47 := NB492_499.out; have hnb48 := NB499_495.out; have hnc48 := NB495_499.out; have hcz49_0 : w42.cell? ⟨gb499, 0, none⟩ = some (.int .i64 x500000_2) := (blk_cell BK499.out 0).trans rfl; have hcz49_1 : w42.cell? ⟨gb499, 1, none⟩ = some (.int .i64 x500001_2) := (blk_cell BK499.out 1).trans rfl; have hfz49_0 := blk_frozen BK499.out 0; have hfz49_1 := blk_frozen BK499.out 1) | ((with_reducible refine gate_callee (f := 78) rfl ?_); refine goesL_ (some 51) rfl rfl Try.func78 (by kernel_rfl) rfl #[.agg #[.int .i64 t502, .int .i64 t503], .agg #[.int .i64 x500000_2, .int .i64 x500001_2]] rfl (by (try simp only [List.map_toArray, List.map_cons, List.map_nil]); first | done | rfl | (simp only [List.length_drop, List.length_take]; rfl)) ?_; (with_reducible refine (wear_less.calls t502 t503 x500000_2 x500001_2 false _ A25.out).mono ?_); rintro e w50 ⟨rfl, hb⟩; refine ⟨_, rfl, ?_⟩; have n0_ := Aside0.mk (blk_below (g := gb492) (o := .cells #[.int .i64 0, .int .i64 0] 35 (0, 0)) (by (with_reducible repeat (first | refine blk_drewN ?_ _ | refine blk_drew ?_ | refine blk_alloc ?_ _)); refine blk_far ?_ NB492_504.out _; (with_reducible repeat (first | refine blk_drewN ?_ _ | refine blk_drew ?_ | refine blk_alloc ?_ _)); refine blk_far ?_ NB492_504.out _; (with_reducible repeat (first | refine blk_drewN ?_ _ | refine blk_drew ?_ | refine blk_alloc ?_ _)); exact BK492.out) hb); have n1_ := Aside0.mk (blk_below (g := gb495) (o := .cells #[.int .i64 x496000_1, .int .i64 x496001_1] 35 (0, 0)) (by (with_reducible repeat (first | refine blk_drewN ?_ _ | refine blk_drew ?_ | refine blk_alloc ?_ _)); refine blk_far ?_ NB495_504.out _; (with_reducible repeat (first | refine blk_drewN ?_ _ | refine blk_drew ?_ | refine blk_alloc ?_ _)); refine blk_far ?_ NB495_504.out _; (with_reducible repeat (first | refine blk_drewN ?_ _ | refine blk_drew ?_ | refine blk_alloc ?_ _)); exact BK495.out) hb); have n2_ := Aside0.mk (blk_below (g := gb499) (o := .cells #[.int .i64 x500000_2, .int .i64 x500001_2] 35 (0, 0)) (by (with_reducible repeat (first | refine blk_drewN ?_ _ | refine blk_drew ?_ | refine blk_alloc ?_ _)); refine blk_far ?_ NB499_504.out _; (with_reducible repeat (first | refine blk_drewN ?_ _ | refine blk_drew ?_ | refine blk_alloc ?_ _)); refine blk_far ?_ NB499_504.out _; (with_reducible repeat (first | refine blk_drewN ?_ _ | refine blk_drew ?_ | refine blk_alloc ?_ _)); exact BK499.out) hb); have n3_ := Aside0.mk (blk_below (g := gb504) (o := .cells #[.int .i64 t502, .int .i64 t503] 35 (0, 0)) (by (with_reducible repeat (first | refine blk_drewN ?_ _ | refine blk_drew ?_ | refine blk_alloc ?_ _)); refine blk_put (cs := #[.int .i64 t502, .int .i64 0]) ?_ 1 _ rfl; (with_reducible repeat (first | refine blk_drewN ?_ _ | refine blk_drew ?_ | refine blk_alloc ?_ _)); refine blk_put (cs := #[.int .i64 0, .int .i64 0]) ?_ 0 _ rfl; (with_reducible repeat (first | refine blk_drewN ?_ _ | refine blk_drew ?_ | refine blk_alloc ?_ _)); exact BK504.out) hb); have n4_ := Aside0.mk (below_step (by repeat (first | (with_reducible first | exact HB.out | apply below_alloc | apply pw_below_drewN | apply below_drew1 | refine below_set ?_ GE492.out | refine below_set ?_ GE495.out | refine below_set ?_ GE499.out | refine below_set ?_ GE504.out) | exact HB.out)) hb); clear BK492; clear BK495; clear BK499; clear BK504; clear HB; have BK492 := n0_; have BK495 := n1_; have BK499 := n2_; have BK504 := n3_; have HB := n4_; clear n0_ n1_ n2_ n3_ n4_; (try clear hb); (try clear hb2); (try clear hk); (try clear hi)))
                                go_roundg k2
                                case measure => have := HK1.out; have := HK2.out; omega
                                case rel => exact ⟨(wrap64 (x9_2 + 1)), (x500000_2), (x500001_2), (by first | rfl | (simp; done) | (simp [*]; done)), H', ⟨by have := HK1.out; have := HK2.out; omega⟩, ⟨by (with_reducible repeat (first | refine blk_drewN ?_ _ | refine blk_drew ?_ | refine blk_alloc ?_ _)); exact BK492.out⟩, ⟨by (with_reducible repeat (first | refine blk_drewN ?_ _ | refine blk_drew ?_ | refine blk_alloc ?_ _)); exact BK495.out⟩, ⟨by (with_reducible repeat (first | refine blk_drewN ?_ _ | refine blk_drew ?_ | refine blk_alloc ?_ _)); exact BK499.out⟩, ⟨by repeat (first | (with_reducible first | exact HB.out | apply below_alloc | apply pw_below_drewN | apply below_drew1 | refine below_set ?_ GE492.out | refine below_set ?_ GE495.out | refine below_set ?_ GE499.out | refine below_set ?_ GE504.out) | exact HB.out)⟩⟩
                            · rw [if_neg c23] at H
                              exact absurd H (by simp)
                          · rw [if_neg c22] at H
                            exact absurd H (by simp)
                        · rw [if_neg c21] at H
                          exact absurd H (by simp)
                      · rw [if_neg c20] at H
                        have c20b0 : decide (x9_2 < (l0.length : Int)) = false := decide_eq_false c20
                        clear c20
                        by_cases c51 : x26_1 = 0
                        · rw [if_pos c51] at H
                          have c51b0 : (x26_1 == 0) = true := beq_iff_eq.mpr c51
                          have c51b1 : (x26_1 != 0) = false := bne_eq_false_iff_eq.mpr c51
                          clear c51
                          have H' := Aside0.mk H
                          clear H
                          have hnb52 := NB499_492.out
                          have hnc52 := NB492_499.out
                          have hnb53 := NB499_495.out
                          have hnc53 := NB495_499.out
                          have hcz54_0 : wr.cell? ⟨gb499, 0, none⟩ = some (.int .i64 x500000_2) := (blk_cell BK499.out 0).trans rfl
                          have hcz54_1 : wr.cell? ⟨gb499, 1, none⟩ = some (.int .i64 x500001_2) := (blk_cell BK499.out 1).trans rfl
                          have hfz54_0 := blk_frozen BK499.out 0
                          have hfz54_1 := blk_frozen BK499.out 1
                          have hnb55 := NB495_492.out
                          have hnc55 := NB492_495.out
                          have hcz56_0 : wr.cell? ⟨gb495, 0, none⟩ = some (.int .i64 x496000_1) := (blk_cell BK495.out 0).trans rfl
                          have hcz56_1 : wr.cell? ⟨gb495, 1, none⟩ = some (.int .i64 x496001_1) := (blk_cell BK495.out 1).trans rfl
                          have hfz56_0 := blk_frozen BK495.out 0
                          have hfz56_1 := blk_frozen BK495.out 1
                          go_wp2
                          go_roundg k2
                          case measure => have := HK1.out; have := HK2.out; omega
                          case rel => exact ⟨(wrap64 (x26_1 + 1)), (x500000_2), (x500001_2), (by first | rfl | (simp; done) | (simp [*]; done)), H', ⟨by have := HK1.out; have := HK2.out; omega⟩, ⟨by (with_reducible repeat (first | refine blk_drewN ?_ _ | refine blk_drew ?_ | refine blk_alloc ?_ _)); refine blk_far ?_ NB492_495.out _; (with_reducible repeat (first | refine blk_drewN ?_ _ | refine blk_drew ?_ | refine blk_alloc ?_ _)); refine blk_far ?_ NB492_495.out _; (with_reducible repeat (first | refine blk_drewN ?_ _ | refine blk_drew ?_ | refine blk_alloc ?_ _)); exact BK492.out⟩, ⟨by (with_reducible repeat (first | refine blk_drewN ?_ _ | refine blk_drew ?_ | refine blk_alloc ?_ _)); refine blk_put (cs := #[.int .i64 x500000_2, .int .i64 x496001_1]) ?_ 1 _ rfl; (with_reducible repeat (first | refine blk_drewN ?_ _ | refine blk_drew ?_ | refine blk_alloc ?_ _)); refine blk_put (cs := #[.int .i64 x496000_1, .int .i64 x496001_1]) ?_ 0 _ rfl; (with_reducible repeat (first | refine blk_drewN ?_ _ | refine blk_drew ?_ | refine blk_alloc ?_ _)); exact BK495.out⟩, ⟨by repeat (first | (with_reducible first | exact HB.out | apply below_alloc | apply pw_below_drewN | apply below_drew1 | refine below_set ?_ GE492.out | refine below_set ?_ GE495.out | refine below_set ?_ GE499.out) | exact HB.out)⟩⟩
                        · rw [if_neg c51] at H
                          have c51b0 : (x26_1 == 0) = false := beq_eq_false_iff_ne.mpr c51
                          have c51b1 : (x26_1 != 0) = true := bne_iff_ne.mpr c51
                          replace H := Option.bind_eq_some_iff.mp H
                          obtain ⟨t500, A570, H⟩ := H
                          replace H : (if t500 = true then (wear_Between.l0 k2 l0 a1 (wrap64 (a1 + 1)) (wrap64 (x26_1 + 1)) x500000_2 x500001_2) else (wear_Between.l0 k2 l0 a1 (wrap64 (a1 + 1)) (wrap64 (x26_1 + 1)) x496000_1 x496001_1)) = some (r1, r2, r3) := H
                          have A57 := Aside0.mk A570
                          clear A570
                          by_cases c58 : t500 = true
                          · subst c58
                            have H1 : (wear_Between.l0 k2 l0 a1 (wrap64 (a1 + 1)) (wrap64 (x26_1 + 1)) x500000_2 x500001_2) = some (r1, r2, r3) := by rw [if_pos rfl] at H; exact H
                            clear H
                            have H := H1
                            clear H1
                            have H' := Aside0.mk H
                            clear H
                            have hnb59 := NB495_492.out
                            have hnc59 := NB492_495.out
                            have hnb60 := NB495_499.out
                            have hnc60 := NB499_495.out
                            have hcz61_0 : wr.cell? ⟨gb495, 0, none⟩ = some (.int .i64 x496000_1) := (blk_cell BK495.out 0).trans rfl
                            have hcz61_1 : wr.cell? ⟨gb495, 1, none⟩ = some (.int .i64 x496001_1) := (blk_cell BK495.out 1).trans rfl
                            have hfz61_0 := blk_frozen BK495.out 0
                            have hfz61_1 := blk_frozen BK495.out 1
                            have hnb62 := NB499_492.out
                            have hnc62 := NB492_499.out
                            have hcz63_0 : wr.cell? ⟨gb499, 0, none⟩ = some (.int .i64 x500000_2) := (blk_cell BK499.out 0).trans rfl
                            have hcz63_1 : wr.cell? ⟨gb499, 1, none⟩ = some (.int .i64 x500001_2) := (blk_cell BK499.out 1).trans rfl
                            have hfz63_0 := blk_frozen BK499.out 0
                            have hfz63_1 := blk_frozen BK499.out 1
                            go_wp2_with (first | (go_at_call 78; (with_reducible refine (wear_less.calls x496000_1 x496001_1 x500000_2 x500001_2 true _ A57.out).mono ?_); rintro e w64 ⟨rfl, hb⟩; have n0_ := Aside0.mk (blk_below (g := gb492) (o := .cells #[.int .i64 0, .int .i64 0] 35 (0, 0)) (by (with_reducible repeat (first | refine blk_drewN ?_ _ | refine blk_drew ?_ | refine blk_alloc ?_ _)); exact BK492.out) hb); have n1_ := Aside0.mk (blk_below (g := gb495) (o := .cells #[.int .i64 x496000_1, .int .i64 x496001_1] 35 (0, 0)) (by (with_reducible repeat (first | refine blk_drewN ?_ _ | refine blk_drew ?_ | refine blk_alloc ?_ _)); exact BK495.out) hb); have n2_ := Aside0.mk (blk_below (g := gb499) (o := .cells #[.int .i64 x500000_2, .int .i64 x500001_2] 35 (0, 0)) (by (with_reducible repeat (first | refine blk_drewN ?_ _ | refine blk_drew ?_ | refine blk_alloc ?_ _)); exact BK499.out) hb); have n3_ := Aside0.mk (below_step (by repeat (first | (with_reducible first | exact HB.out | apply below_alloc | apply pw_below_drewN | apply below_drew1 | refine below_set ?_ GE492.out | refine below_set ?_ GE495.out | refine below_set ?_ GE499.out) | exact HB.out)) hb); clear BK492; clear BK495; clear BK499; clear HB; have BK492 := n0_; have BK495 := n1_; have BK499 := n2_; have HB := n3_; clear n0_ n1_ n2_ n3_; (try clear hb); (try clear hb2); (try clear hk); (try clear hi); have hcz65_0 : w64.cell? ⟨gb499, 0, none⟩ = some (.int .i64 x500000_2) := (blk_cell BK499.out 0).trans rfl; have hcz65_1 : w64.cell? ⟨gb499, 1, none⟩ = some (.int .i64 x500001_2) := (blk_cell BK499.out 1).trans rfl; have hfz65_0 := blk_frozen BK499.out 0; have hfz65_1 := blk_frozen BK499.out 1; have hcz66_0 : w64.cell? ⟨gb495, 0, none⟩ = some (.int .i64 x496000_1) := (blk_cell BK495.out 0).trans rfl; have hcz66_1 : w64.cell? ⟨gb495, 1, none⟩ = some (.int .i64 x496001_1) := (blk_cell BK495.out 1).trans rfl; have hfz66_0 := blk_frozen BK495.out 0; have hfz66_1 := blk_frozen BK495.out 1))
                            go_roundg k2
                            case measure => have := HK1.out; have := HK2.out; omega
                            case rel => exact ⟨(wrap64 (x26_1 + 1)), (x500000_2), (x500001_2), (by first | rfl | (simp; done) | (simp [*]; done)), H', ⟨by have := HK1.out; have := HK2.out; omega⟩, ⟨by (with_reducible repeat (first | refine blk_drewN ?_ _ | refine blk_drew ?_ | refine blk_alloc ?_ _)); refine blk_far ?_ NB492_495.out _; (with_reducible repeat (first | refine blk_drewN ?_ _ | refine blk_drew ?_ | refine blk_alloc ?_ _)); refine blk_far ?_ NB492_495.out _; (with_reducible repeat (first | refine blk_drewN ?_ _ | refine blk_drew ?_ | refine blk_alloc ?_ _)); exact BK492.out⟩, ⟨by (with_reducible repeat (first | refine blk_drewN ?_ _ | refine blk_drew ?_ | refine blk_alloc ?_ _)); refine blk_put (cs := #[.int .i64 x500000_2, .int .i64 x496001_1]) ?_ 1 _ rfl; (with_reducible repeat (first | refine blk_drewN ?_ _ | refine blk_drew ?_ | refine blk_alloc ?_ _)); refine blk_put (cs := #[.int .i64 x496000_1, .int .i64 x496001_1]) ?_ 0 _ rfl; (with_reducible repeat (first | refine blk_drewN ?_ _ | refine blk_drew ?_ | refine blk_alloc ?_ _)); exact BK495.out⟩, ⟨by repeat (first | (with_reducible first | exact HB.out | apply below_alloc | apply pw_below_drewN | apply below_drew1 | refine below_set ?_ GE492.out | refine below_set ?_ GE495.out | refine below_set ?_ GE499.out) | exact HB.out)⟩⟩
                          · replace c58 := Bool.eq_false_iff.mpr c58
                            subst c58
                            have H1 : (wear_Between.l0 k2 l0 a1 (wrap64 (a1 + 1)) (wrap64 (x26_1 + 1)) x496000_1 x496001_1) = some (r1, r2, r3) := by rw [if_neg (show ¬ (false = true) by decide)] at H; exact H
                            clear H
                            have H := H1
                            clear H1
                            have H' := Aside0.mk H
                            clear H
                            have hnb67 := NB495_492.out
                            have hnc67 := NB492_495.out
                            have hnb68 := NB495_499.out
                            have hnc68 := NB499_495.out
                            have hcz69_0 : wr.cell? ⟨gb495, 0, none⟩ = some (.int .i64 x496000_1) := (blk_cell BK495.out 0).trans rfl
                            have hcz69_1 : wr.cell? ⟨gb495, 1, none⟩ = some (.int .i64 x496001_1) := (blk_cell BK495.out 1).trans rfl
                            have hfz69_0 := blk_frozen BK495.out 0
                            have hfz69_1 := blk_frozen BK495.out 1
                            have hnb70 := NB499_492.out
                            have hnc70 := NB492_499.out
                            have hcz71_0 : wr.cell? ⟨gb499, 0, none⟩ = some (.int .i64 x500000_2) := (blk_cell BK499.out 0).trans rfl
                            have hcz71_1 : wr.cell? ⟨gb499, 1, none⟩ = some (.int .i64 x500001_2) := (blk_cell BK499.out 1).trans rfl
                            have hfz71_0 := blk_frozen BK499.out 0
                            have hfz71_1 := blk_frozen BK499.out 1
                            go_wp2_with (first | (go_at_call 78; (with_reducible refine (wear_less.calls x496000_1 x496001_1 x500000_2 x500001_2 false _ A57.out).mono ?_); rintro e w72 ⟨rfl, hb⟩; have n0_ := Aside0.mk (blk_below (g := gb492) (o := .cells #[.int .i64 0, .int .i64 0] 35 (0, 0)) (by (with_reducible repeat (first | refine blk_drewN ?_ _ | refine blk_drew ?_ | refine blk_alloc ?_ _)); exact BK492.out) hb); have n1_ := Aside0.mk (blk_below (g := gb495) (o := .cells #[.int .i64 x496000_1, .int .i64 x496001_1] 35 (0, 0)) (by (with_reducible repeat (first | refine blk_drewN ?_ _ | refine blk_drew ?_ | refine blk_alloc ?_ _)); exact BK495.out) hb); have n2_ := Aside0.mk (blk_below (g := gb499) (o := .cells #[.int .i64 x500000_2, .int .i64 x500001_2] 35 (0, 0)) (by (with_reducible repeat (first | refine blk_drewN ?_ _ | refine blk_drew ?_ | refine blk_alloc ?_ _)); exact BK499.out) hb); have n3_ := Aside0.mk (below_step (by repeat (first | (with_reducible first | exact HB.out | apply below_alloc | apply pw_below_drewN | apply below_drew1 | refine below_set ?_ GE492.out | refine below_set ?_ GE495.out | refine below_set ?_ GE499.out) | exact HB.out)) hb); clear BK492; clear BK495; clear BK499; clear HB; have BK492 := n0_; have BK495 := n1_; have BK499 := n2_; have HB := n3_; clear n0_ n1_ n2_ n3_; (try clear hb); (try clear hb2); (try clear hk); (try clear hi)))
                            go_roundg k2
                            case measure => have := HK1.out; have := HK2.out; omega
                            case rel => exact ⟨(wrap64 (x26_1 + 1)), (x496000_1), (x496001_1), (by first | rfl | (simp; done) | (simp [*]; done)), H', ⟨by have := HK1.out; have := HK2.out; omega⟩, ⟨by (with_reducible repeat (first | refine blk_drewN ?_ _ | refine blk_drew ?_ | refine blk_alloc ?_ _)); exact BK492.out⟩, ⟨by (with_reducible repeat (first | refine blk_drewN ?_ _ | refine blk_drew ?_ | refine blk_alloc ?_ _)); exact BK495.out⟩, ⟨by repeat (first | (with_reducible first | exact HB.out | apply below_alloc | apply pw_below_drewN | apply below_drew1 | refine below_set ?_ GE492.out | refine below_set ?_ GE495.out | refine below_set ?_ GE499.out) | exact HB.out)⟩⟩
                · rw [if_neg c12] at H
                  exact absurd H (by simp)
              · rw [if_neg c11] at H
                exact absurd H (by simp)
            · rw [if_neg c10] at H
              exact absurd H (by simp)
          · rw [if_neg c9] at H
            have c9b0 : decide (x26_1 < (wrap64 (a1 + 1))) = false := decide_eq_false c9
            clear c9
            simp only [Option.some.injEq, Prod.mk.injEq] at H
            obtain ⟨rfl, rfl, rfl⟩ := H
            have hnb73 := NB495_492.out
            have hnc73 := NB492_495.out
            have hcz74_0 : wr.cell? ⟨gb495, 0, none⟩ = some (.int .i64 x496000_1) := (blk_cell BK495.out 0).trans rfl
            have hcz74_1 : wr.cell? ⟨gb495, 1, none⟩ = some (.int .i64 x496001_1) := (blk_cell BK495.out 1).trans rfl
            have hfz74_0 := blk_frozen BK495.out 0
            have hfz74_1 := blk_frozen BK495.out 1
            have hcz75_0 : wr.cell? ⟨gb492, 0, none⟩ = some (.int .i64 0) := (blk_cell BK492.out 0).trans rfl
            have hcz75_1 : wr.cell? ⟨gb492, 1, none⟩ = some (.int .i64 0) := (blk_cell BK492.out 1).trans rfl
            have hfz75_0 := blk_frozen BK492.out 0
            have hfz75_1 := blk_frozen BK492.out 1
            go_wp2
            refine bodyPost_ret (results_ct rfl _ _ gb492 35 #[.int .i64 x496000_1, .int .i64 x496001_1] (0, 0) _ rfl (by (with_reducible repeat (first | refine blk_drewN ?_ _ | refine blk_drew ?_ | refine blk_alloc ?_ _)); refine blk_put (cs := #[.int .i64 x496000_1, .int .i64 0]) ?_ 1 _ rfl; (with_reducible repeat (first | refine blk_drewN ?_ _ | refine blk_drew ?_ | refine blk_alloc ?_ _)); refine blk_put (cs := #[.int .i64 0, .int .i64 0]) ?_ 0 _ rfl; (with_reducible repeat (first | refine blk_drewN ?_ _ | refine blk_drew ?_ | refine blk_alloc ?_ _)); exact BK492.out) Try.underlying35 rfl (by kernel_rfl)) rfl ?_
            exact ⟨by first | rfl | (simp [errW_none, errW_some] <;> rfl) | (simp [*, errW_none, errW_some] <;> rfl), by repeat (first | (with_reducible first | exact HB.out | apply below_alloc | apply pw_below_drewN | apply below_drew1 | refine below_set ?_ GE492.out | refine below_set ?_ GE495.out) | exact HB.out)⟩
    · replace c6 := Bool.eq_false_iff.mpr c6
      subst c6
      have H1 : (some (0, 0, 2)) = some (r1, r2, r3) := by rw [if_neg (show ¬ (false = true) by decide)] at H; exact H
      clear H
      have H := H1
      clear H1
      simp only [Option.some.injEq, Prod.mk.injEq] at H
      obtain ⟨rfl, rfl, rfl⟩ := H
      go_enter Try.func43, Try.ntmps43
      go_wp2_with (first | ((with_reducible refine gate_dst (N := 4) rfl ?_); refine box_event ?hg (N := 4) ?hd (cs := #[.int .i64 0, .int .i64 0]) (t := 35) ?hr ?_; (case hd => rfl); (case hg => rfl); (case hr => first | (go_simp; done) | (go_simp; rfl)); intro gb492 hg w76 hbox hb; have n0_ := Aside0.mk (below_step (by repeat (first | (with_reducible first | exact HB.out | apply below_alloc | apply pw_below_drewN | apply below_drew1) | exact HB.out)) hb); have n1_ := Aside0.mk (hbox); have n2_ := Aside0.mk ((by rw [hg]; exact (below_size (by repeat (first | (with_reducible first | exact HB.out | apply below_alloc | apply pw_below_drewN | apply below_drew1) | exact HB.out))) : w.heap.size ≤ gb492)); have n3_ := Aside0.mk ((by rw [hg]; exact (below_size (by repeat (first | (with_reducible first | exact HB.out | apply below_alloc | apply pw_below_drewN | apply below_drew1) | exact HB.out))) : w.heap.size ≤ gb492)); clear HB; have HB := n0_; have BK492 := n1_; have GW492 := n2_; have GE492 := n3_; clear n0_ n1_ n2_ n3_; clear hb hbox hg) | ((with_reducible refine gate_callee (f := 27) rfl ?_); refine goesL_ (some 13) rfl rfl Try.func27 (by kernel_rfl) rfl #[.slice A0 l0.length c0] rfl (by (try simp only [List.map_toArray, List.map_cons, List.map_nil]); first | done | rfl | (simp only [List.length_drop, List.length_take]; rfl)) ?_; (with_reducible refine (wear_Valid.calls _ _ l0 true _ ?side1 ?side2 A3.out).mono ?_); (case side1 => repeat (first | exact (Kd.C_below HR0.out HB.out) | (with_reducible refine Kd.C_alloc ?_ _) | (with_reducible refine Kd.C_drewN ?_ _) | (with_reducible refine Kd.C_drew ?_))); (case side2 => exact HC0.out); rintro e w' ⟨rfl, ⟨nd, rfl⟩⟩; refine ⟨_, rfl, ?_⟩; (try (rw [drewN_self w76]; generalize hq_ : World.drewN w76 _ = w76; have n0_ : Aside0 (w76.heap[gb492]? = some (.cells #[.int .i64 0, .int .i64 0] 35 (0, 0))) := ⟨by rw [← hq_]; exact (by (with_reducible repeat (first | refine blk_drewN ?_ _ | refine blk_drew ?_ | refine blk_alloc ?_ _)); exact BK492.out)⟩; have n1_ : Aside0 (Below w.heap.size w w76) := ⟨by rw [← hq_]; exact (by repeat (first | (with_reducible first | exact HB.out | apply below_alloc | apply pw_below_drewN | apply below_drew1 | refine below_set ?_ GE492.out) | exact HB.out))⟩; clear BK492 HB hq_; have BK492 := n0_; have HB := n1_; clear n0_ n1_))) | ((with_reducible refine gate_callee (f := 52) rfl ?_); refine goesL_ (some 21) rfl rfl Try.func52 (by kernel_rfl) rfl #[.int .i64 0, .int .i64 a1, .int .i64 (wrap64 ((l0.length : Int) - 1))] rfl (by (try simp only [List.map_toArray, List.map_cons, List.map_nil]); first | done | rfl | (simp only [List.length_drop, List.length_take]; rfl)) ?_; (with_reducible refine (wear_within.calls 0 a1 (wrap64 ((l0.length : Int) - 1)) false _ A5.out).mono ?_); rintro e w' ⟨rfl, ⟨nd, rfl⟩⟩; refine ⟨_, rfl, ?_⟩; (try (rw [drewN_self w76]; generalize hq_ : World.drewN w76 _ = w76; have n0_ : Aside0 (w76.heap[gb492]? = some (.cells #[.int .i64 0, .int .i64 0] 35 (0, 0))) := ⟨by rw [← hq_]; exact (by (with_reducible repeat (first | refine blk_drewN ?_ _ | refine blk_drew ?_ | refine blk_alloc ?_ _)); exact BK492.out)⟩; have n1_ : Aside0 (Below w.heap.size w w76) := ⟨by rw [← hq_]; exact (by repeat (first | (with_reducible first | exact HB.out | apply below_alloc | apply pw_below_drewN | apply below_drew1 | refine below_set ?_ GE492.out) | exact HB.out))⟩; clear BK492 HB hq_; have BK492 := n0_; have HB := n1_; clear n0_ n1_)); have hcz77_0 : w76.cell? ⟨gb492, 0, none⟩ = some (.int .i64 0) := (blk_cell BK492.out 0).trans rfl; have hcz77_1 : w76.cell? ⟨gb492, 1, none⟩ = some (.int .i64 0) := (blk_cell BK492.out 1).trans rfl; have hfz77_0 := blk_frozen BK492.out 0; have hfz77_1 := blk_frozen BK492.out 1))
      refine bodyPost_ret (results_ct rfl _ _ gb492 35 #[.int .i64 0, .int .i64 0] (0, 0) _ rfl (by (with_reducible repeat (first | refine blk_drewN ?_ _ | refine blk_drew ?_ | refine blk_alloc ?_ _)); refine blk_put (cs := #[.int .i64 0, .int .i64 0]) ?_ 1 _ rfl; (with_reducible repeat (first | refine blk_drewN ?_ _ | refine blk_drew ?_ | refine blk_alloc ?_ _)); refine blk_put (cs := #[.int .i64 0, .int .i64 0]) ?_ 0 _ rfl; (with_reducible repeat (first | refine blk_drewN ?_ _ | refine blk_drew ?_ | refine blk_alloc ?_ _)); exact BK492.out) Try.underlying35 rfl (by kernel_rfl)) rfl ?_
      exact ⟨by first | rfl | (simp [errW_none, errW_some] <;> rfl) | (simp [*, errW_none, errW_some] <;> rfl), by repeat (first | (with_reducible first | exact HB.out | apply below_alloc | apply pw_below_drewN | apply below_drew1 | refine below_set ?_ GE492.out) | exact HB.out)⟩
  · replace c4 := Bool.eq_false_iff.mpr c4
    subst c4
    have H1 : (some (0, 0, 70)) = some (r1, r2, r3) := by rw [if_neg (show ¬ (false = true) by decide)] at H; exact H
    clear H
    have H := H1
    clear H1
    simp only [Option.some.injEq, Prod.mk.injEq] at H
    obtain ⟨rfl, rfl, rfl⟩ := H
    go_enter Try.func43, Try.ntmps43
    go_wp2_with (first | ((with_reducible refine gate_dst (N := 4) rfl ?_); refine box_event ?hg (N := 4) ?hd (cs := #[.int .i64 0, .int .i64 0]) (t := 35) ?hr ?_; (case hd => rfl); (case hg => rfl); (case hr => first | (go_simp; done) | (go_simp; rfl)); intro gb492 hg w78 hbox hb; have n0_ := Aside0.mk (below_step (by repeat (first | (with_reducible first | exact HB.out | apply below_alloc | apply pw_below_drewN | apply below_drew1) | exact HB.out)) hb); have n1_ := Aside0.mk (hbox); have n2_ := Aside0.mk ((by rw [hg]; exact (below_size (by repeat (first | (with_reducible first | exact HB.out | apply below_alloc | apply pw_below_drewN | apply below_drew1) | exact HB.out))) : w.heap.size ≤ gb492)); have n3_ := Aside0.mk ((by rw [hg]; exact (below_size (by repeat (first | (with_reducible first | exact HB.out | apply below_alloc | apply pw_below_drewN | apply below_drew1) | exact HB.out))) : w.heap.size ≤ gb492)); clear HB; have HB := n0_; have BK492 := n1_; have GW492 := n2_; have GE492 := n3_; clear n0_ n1_ n2_ n3_; clear hb hbox hg) | ((with_reducible refine gate_callee (f := 27) rfl ?_); refine goesL_ (some 13) rfl rfl Try.func27 (by kernel_rfl) rfl #[.slice A0 l0.length c0] rfl (by (try simp only [List.map_toArray, List.map_cons, List.map_nil]); first | done | rfl | (simp only [List.length_drop, List.length_take]; rfl)) ?_; (with_reducible refine (wear_Valid.calls _ _ l0 false _ ?side1 ?side2 A3.out).mono ?_); (case side1 => repeat (first | exact (Kd.C_below HR0.out HB.out) | (with_reducible refine Kd.C_alloc ?_ _) | (with_reducible refine Kd.C_drewN ?_ _) | (with_reducible refine Kd.C_drew ?_))); (case side2 => exact HC0.out); rintro e w' ⟨rfl, ⟨nd, rfl⟩⟩; refine ⟨_, rfl, ?_⟩; (try (rw [drewN_self w78]; generalize hq_ : World.drewN w78 _ = w78; have n0_ : Aside0 (w78.heap[gb492]? = some (.cells #[.int .i64 0, .int .i64 0] 35 (0, 0))) := ⟨by rw [← hq_]; exact (by (with_reducible repeat (first | refine blk_drewN ?_ _ | refine blk_drew ?_ | refine blk_alloc ?_ _)); exact BK492.out)⟩; have n1_ : Aside0 (Below w.heap.size w w78) := ⟨by rw [← hq_]; exact (by repeat (first | (with_reducible first | exact HB.out | apply below_alloc | apply pw_below_drewN | apply below_drew1 | refine below_set ?_ GE492.out) | exact HB.out))⟩; clear BK492 HB hq_; have BK492 := n0_; have HB := n1_; clear n0_ n1_)); have hcz79_0 : w78.cell? ⟨gb492, 0, none⟩ = some (.int .i64 0) := (blk_cell BK492.out 0).trans rfl; have hcz79_1 : w78.cell? ⟨gb492, 1, none⟩ = some (.int .i64 0) := (blk_cell BK492.out 1).trans rfl; have hfz79_0 := blk_frozen BK492.out 0; have hfz79_1 := blk_frozen BK492.out 1))
    refine bodyPost_ret (results_ct rfl _ _ gb492 35 #[.int .i64 0, .int .i64 0] (0, 0) _ rfl (by (with_reducible repeat (first | refine blk_drewN ?_ _ | refine blk_drew ?_ | refine blk_alloc ?_ _)); refine blk_put (cs := #[.int .i64 0, .int .i64 0]) ?_ 1 _ rfl; (with_reducible repeat (first | refine blk_drewN ?_ _ | refine blk_drew ?_ | refine blk_alloc ?_ _)); refine blk_put (cs := #[.int .i64 0, .int .i64 0]) ?_ 0 _ rfl; (with_reducible repeat (first | refine blk_drewN ?_ _ | refine blk_drew ?_ | refine blk_alloc ?_ _)); exact BK492.out) Try.underlying35 rfl (by kernel_rfl)) rfl ?_
    exact ⟨by first | rfl | (simp [errW_none, errW_some] <;> rfl) | (simp [*, errW_none, errW_some] <;> rfl), by repeat (first | (with_reducible first | exact HB.out | apply below_alloc | apply pw_below_drewN | apply below_drew1 | refine below_set ?_ GE492.out) | exact HB.out)⟩

end Go.Proofs.Ytpdcpekjafcohaa.XWear

-- Written by wip/xprint.py of this repo, over the kit's print.py: out of the translation; the oracles in it are by hand. Not trusted: Lean checks it.
namespace Go.Proofs.Ytpdcpekjafcohaa.XWear
open Go.RowKit Go.Proofs.YtpdcpekjafcohaaW.PrintWords Go.Proofs.YtpdcpekjafcohaaW.PrintLast Go.Proofs.YtpdcpekjafcohaaW.PrintMore
attribute [local go_sem] max2_int min2_int max_two min_two max_three min_three max_four min_four   -- for this text's walks alone
set_option linter.unusedVariables false
set_option linter.unusedSimpArgs false

/-! ### dropperref07_Less: function 21 -/
def dropperref07_Less.f (a0_0 : Int) (a0_1 : Int) (a1_0 : Int) (a1_1 : Int) : Option (Bool) := some (decide ((wrap64 (a0_0 * a1_1)) < (wrap64 (a1_0 * a0_1))))
set_option maxHeartbeats 8000000 in
set_option maxRecDepth 100000 in
theorem dropperref07_Less.calls (a0_0 : Int) (a0_1 : Int) (a1_0 : Int) (a1_1 : Int) (r : Bool) (w : World) (h : dropperref07_Less.f a0_0 a0_1 a1_0 a1_1 = some r) :
    Calls Try.prog 21 #[.agg #[.int .i64 a0_0, .int .i64 a0_1], .agg #[.int .i64 a1_0, .int .i64 a1_1]] w fun e w' => e = .returned (.bool r) ∧ Below w.heap.size w w' := by
  have hu35 := Try.underlying35
  have HB := Aside0.mk (Below.refl w.heap.size w)
  have H : (some (decide ((wrap64 (a0_0 * a1_1)) < (wrap64 (a1_0 * a0_1))))) = some r := h
  clear h
  obtain rfl := Option.some.inj H
  go_enter Try.func21, Try.ntmps21
  go_wp2_with (first | ((with_reducible refine gate_dst (N := 2) rfl ?_); refine box_event ?hg (N := 2) ?hd (cs := #[.int .i64 a0_0, .int .i64 a0_1]) (t := 35) ?hr ?_; (case hd => rfl); (case hg => rfl); (case hr => first | (go_simp; done) | (go_simp; rfl)); intro gb225 hg w3 hbox hb; have n0_ := Aside0.mk (below_step (by repeat (first | (with_reducible first | exact HB.out | apply below_alloc | apply pw_below_drewN | apply below_drew1) | exact HB.out)) hb); have n1_ := Aside0.mk (hbox); have n2_ := Aside0.mk ((by rw [hg]; exact (below_size (by repeat (first | (with_reducible first | exact HB.out | apply below_alloc | apply pw_below_drewN | apply below_drew1) | exact HB.out))) : w.heap.size ≤ gb225)); have n3_ := Aside0.mk ((by rw [hg]; exact (below_size (by repeat (first | (with_reducible first | exact HB.out | apply below_alloc | apply pw_below_drewN | apply below_drew1) | exact HB.out))) : w.heap.size ≤ gb225)); clear HB; have HB := n0_; have BK225 := n1_; have GW225 := n2_; have GE225 := n3_; clear n0_ n1_ n2_ n3_; clear hb hbox hg) | ((with_reducible refine gate_dst (N := 3) rfl ?_); refine box_event ?hg (N := 3) ?hd (cs := #[.int .i64 a1_0, .int .i64 a1_1]) (t := 35) ?hr ?_; (case hd => rfl); (case hg => rfl); (case hr => first | (go_simp; done) | (go_simp; rfl)); intro gb226 hg w4 hbox hb; have n0_ := Aside0.mk (blk_below (g := gb225) (o := .cells #[.int .i64 a0_0, .int .i64 a0_1] 35 (0, 0)) (by (with_reducible repeat (first | refine blk_drewN ?_ _ | refine blk_drew ?_ | refine blk_alloc ?_ _)); exact BK225.out) hb); have n1_ := Aside0.mk (below_step (by repeat (first | (with_reducible first | exact HB.out | apply below_alloc | apply pw_below_drewN | apply below_drew1 | refine below_set ?_ GE225.out) | exact HB.out)) hb); have n2_ := Aside0.mk (hbox); have n3_ := Aside0.mk ((by rw [hg]; exact (below_size (by repeat (first | (with_reducible first | exact HB.out | apply below_alloc | apply pw_below_drewN | apply below_drew1 | refine below_set ?_ GE225.out) | exact HB.out))) : w.heap.size ≤ gb226)); have n4_ := Aside0.mk ((by rw [hg]; exact (below_size (by repeat (first | (with_reducible first | exact HB.out | apply below_alloc | apply pw_below_drewN | apply below_drew1 | refine below_set ?_ GE225.out) | exact HB.out))) : w.heap.size ≤ gb226)); have n5_ := Aside0.mk ((by rw [hg]; exact Nat.ne_of_lt (blk_lt (g := gb225) (o := .cells #[.int .i64 a0_0, .int .i64 a0_1] 35 (0, 0)) (by (with_reducible repeat (first | refine blk_drewN ?_ _ | refine blk_drew ?_ | refine blk_alloc ?_ _)); exact BK225.out)) : gb225 ≠ gb226)); have n6_ := Aside0.mk ((by rw [hg]; exact Nat.ne_of_gt (blk_lt (g := gb225) (o := .cells #[.int .i64 a0_0, .int .i64 a0_1] 35 (0, 0)) (by (with_reducible repeat (first | refine blk_drewN ?_ _ | refine blk_drew ?_ | refine blk_alloc ?_ _)); exact BK225.out)) : gb226 ≠ gb225)); clear BK225; clear HB; have BK225 := n0_; have HB := n1_; have BK226 := n2_; have GW226 := n3_; have GE226 := n4_; have NB225_226 := n5_; have NB226_225 := n6_; clear n0_ n1_ n2_ n3_ n4_ n5_ n6_; clear hb hbox hg; have hnb5 := NB225_226.out; have hnc5 := NB226_225.out; have hcz6_0 : w4.cell? ⟨gb225, 0, none⟩ = some (.int .i64 a0_0) := (blk_cell BK225.out 0).trans rfl; have hcz6_1 : w4.cell? ⟨gb225, 1, none⟩ = some (.int .i64 a0_1) := (blk_cell BK225.out 1).trans rfl; have hfz6_0 := blk_frozen BK225.out 0; have hfz6_1 := blk_frozen BK225.out 1; have hcz7_0 : w4.cell? ⟨gb226, 0, none⟩ = some (.int .i64 a1_0) := (blk_cell BK226.out 0).trans rfl; have hcz7_1 : w4.cell? ⟨gb226, 1, none⟩ = some (.int .i64 a1_1) := (blk_cell BK226.out 1).trans rfl; have hfz7_0 := blk_frozen BK226.out 0; have hfz7_1 := blk_frozen BK226.out 1))
  go_ret
  exact ⟨by first | rfl | (simp [errW_none, errW_some] <;> rfl) | (simp [*, errW_none, errW_some] <;> rfl), by repeat (first | (with_reducible first | exact HB.out | apply below_alloc | apply pw_below_drewN | apply below_drew1 | refine below_set ?_ GE225.out | refine below_set ?_ GE226.out) | exact HB.out)⟩

end Go.Proofs.Ytpdcpekjafcohaa.XWear

-- Written by wip/xprint.py of this repo, over the kit's print.py: out of the translation; the oracles in it are by hand. Not trusted: Lean checks it.
namespace Go.Proofs.Ytpdcpekjafcohaa.XWear
open Go.RowKit Go.Proofs.YtpdcpekjafcohaaW.PrintWords Go.Proofs.YtpdcpekjafcohaaW.PrintLast Go.Proofs.YtpdcpekjafcohaaW.PrintMore
attribute [local go_sem] max2_int min2_int max_two min_two max_three min_three max_four min_four   -- for this text's walks alone
set_option linter.unusedVariables false
set_option linter.unusedSimpArgs false

/-! ### dropperref07_between: function 57 -/
mutual
def dropperref07_between.l0 : Nat → List Int → Int → Int → Int → Int → Option (Int × Int)
  | 0, _, _, _, _, _ => none
  | k + 1, x0, x1, x6, x297000, x297001 => if x6 ≤ x1 then (if 0 ≤ x6 then (if x6 ≤ (wrap64 (x1 + 1)) then (if (wrap64 (x1 + 1)) ≤ (x0.length : Int) then ((dropperref07_mean.f k ((x0.take ((wrap64 (x1 + 1)) : Int).toNat).drop (x6 : Int).toNat)).bind fun bt298 => (dropperref07_between.l1 k x0 x1 x6 x1 x297000 x297001 bt298.1 bt298.2)) else (none)) else (none)) else (none)) else (some (x297000, x297001))
def dropperref07_between.l1 : Nat → List Int → Int → Int → Int → Int → Int → Int → Int → Option (Int × Int)
  | 0, _, _, _, _, _, _, _, _ => none
  | k + 1, x0, x1, x6, x8, x297000, x297001, x301000, x301001 => if x8 < (x0.length : Int) then (if 0 ≤ x6 then (if x6 ≤ (wrap64 (x8 + 1)) then (if (wrap64 (x8 + 1)) ≤ (x0.length : Int) then ((dropperref07_mean.f k ((x0.take ((wrap64 (x8 + 1)) : Int).toNat).drop (x6 : Int).toNat)).bind fun bt303 => ((dropperref07_Less.f bt303.1 bt303.2 x301000 x301001).bind fun t306 => (if t306 = true then (dropperref07_between.l1 k x0 x1 x6 (wrap64 (x8 + 1)) x297000 x297001 bt303.1 bt303.2) else (dropperref07_between.l1 k x0 x1 x6 (wrap64 (x8 + 1)) x297000 x297001 x301000 x301001)))) else (none)) else (none)) else (none)) else (if x6 = 0 then (dropperref07_between.l0 k x0 x1 (wrap64 (x6 + 1)) x301000 x301001) else ((dropperref07_Less.f x297000 x297001 x301000 x301001).bind fun t301 => (if t301 = true then (dropperref07_between.l0 k x0 x1 (wrap64 (x6 + 1)) x301000 x301001) else (dropperref07_between.l0 k x0 x1 (wrap64 (x6 + 1)) x297000 x297001))))
end
def dropperref07_between.f (k : Nat) (l0 : List Int) (a1 : Int) : Option (Int × Int) := dropperref07_between.l0 k l0 a1 0 0 0
theorem dropperref07_between.mono_l : ∀ k, (∀ y0 y1 y2 y3 y4, LeO (dropperref07_between.l0 k y0 y1 y2 y3 y4) (dropperref07_between.l0 (k + 1) y0 y1 y2 y3 y4)) ∧ (∀ y0 y1 y2 y3 y4 y5 y6 y7, LeO (dropperref07_between.l1 k y0 y1 y2 y3 y4 y5 y6 y7) (dropperref07_between.l1 (k + 1) y0 y1 y2 y3 y4 y5 y6 y7))
  | 0 => ⟨fun _ _ _ _ _ r h => by simp [dropperref07_between.l0] at h, fun _ _ _ _ _ _ _ _ r h => by simp [dropperref07_between.l1] at h⟩
  | k + 1 => by
    obtain ⟨ih0, ih1⟩ := dropperref07_between.mono_l k
    refine ⟨?_, ?_⟩
    · intro y0 y1 y2 y3 y4
      unfold dropperref07_between.l0
      repeat' first
      | (with_reducible exact ih0 _ _ _ _ _)
      | (with_reducible exact ih1 _ _ _ _ _ _ _ _)
      | (with_reducible exact dropperref07_mean.mono _ _)
      | (with_reducible exact LeO.refl _)
      | (with_reducible exact LeO.none _)
      | (with_reducible refine LeO.ite ?_ ?_)
      | (with_reducible refine LeO.bind ?_ (fun _ => ?_))
      | exact ih0 _ _ _ _ _
      | exact ih1 _ _ _ _ _ _ _ _
      | exact dropperref07_mean.mono _ _
      | exact LeO.none _
      | refine LeO.ite ?_ ?_
      | refine LeO.bind ?_ (fun _ => ?_)
    · intro y0 y1 y2 y3 y4 y5 y6 y7
      unfold dropperref07_between.l1
      repeat' first
      | (with_reducible exact ih0 _ _ _ _ _)
      | (with_reducible exact ih1 _ _ _ _ _ _ _ _)
      | (with_reducible exact dropperref07_mean.mono _ _)
      | (with_reducible exact LeO.refl _)
      | (with_reducible exact LeO.none _)
      | (with_reducible refine LeO.ite ?_ ?_)
      | (with_reducible refine LeO.bind ?_ (fun _ => ?_))
      | exact ih0 _ _ _ _ _
      | exact ih1 _ _ _ _ _ _ _ _
      | exact dropperref07_mean.mono _ _
      | exact LeO.none _
      | refine LeO.ite ?_ ?_
      | refine LeO.bind ?_ (fun _ => ?_)
theorem dropperref07_between.mono : ∀ a0 a1 k, LeO (dropperref07_between.f k a0 a1) (dropperref07_between.f (k + 1) a0 a1) := by
  intro a0 a1 k
  obtain ⟨ih0, ih1⟩ := dropperref07_between.mono_l k
  unfold dropperref07_between.f
  repeat' first
      | (with_reducible exact ih0 _ _ _ _ _)
      | (with_reducible exact ih1 _ _ _ _ _ _ _ _)
      | (with_reducible exact dropperref07_mean.mono _ _)
      | (with_reducible exact LeO.refl _)
      | (with_reducible exact LeO.none _)
      | (with_reducible refine LeO.ite ?_ ?_)
      | (with_reducible refine LeO.bind ?_ (fun _ => ?_))
      | exact ih0 _ _ _ _ _
      | exact ih1 _ _ _ _ _ _ _ _
      | exact dropperref07_mean.mono _ _
      | exact LeO.none _
      | refine LeO.ite ?_ ?_
      | refine LeO.bind ?_ (fun _ => ?_)
set_option maxHeartbeats 8000000 in
set_option maxRecDepth 100000 in
theorem dropperref07_between.calls (k : Nat) (A0 : Option Addr) (c0 : Nat) (l0 : List Int) (a1 : Int) (r1 : Int) (r2 : Int) (w : World) (hr0 : Kd.C (Kd.int .i64) w A0 l0.length l0) (hc0 : l0.length ≤ c0) (h : dropperref07_between.f k l0 a1 = some (r1, r2)) :
    Calls Try.prog 57 #[.slice A0 l0.length c0, .int .i64 a1] w fun e w' => e = .returned (.agg #[.int .i64 r1, .int .i64 r2]) ∧ Below w.heap.size w w' := by
  have hu35 := Try.underlying35
  have HR0 := Aside0.mk hr0
  have HC0 := Aside0.mk hc0
  clear hr0 hc0
  have HB := Aside0.mk (Below.refl w.heap.size w)
  have H : (dropperref07_between.l0 k l0 a1 0 0 0) = some (r1, r2) := h
  clear h
  have H' := Aside0.mk H
  clear H
  go_enter Try.func57, Try.ntmps57
  go_wp2_with (first | ((with_reducible refine gate_dst (N := 4) rfl ?_); refine box_event ?hg (N := 4) ?hd (cs := #[.int .i64 0, .int .i64 0]) (t := 35) ?hr ?_; (case hd => rfl); (case hg => rfl); (case hr => first | (go_simp; done) | (go_simp; rfl)); intro gb295 hg w3 hbox hb; have n0_ := Aside0.mk (below_step (by repeat (first | (with_reducible first | exact HB.out | apply below_alloc | apply pw_below_drewN | apply below_drew1) | exact HB.out)) hb); have n1_ := Aside0.mk (hbox); have n2_ := Aside0.mk ((by rw [hg]; exact (below_size (by repeat (first | (with_reducible first | exact HB.out | apply below_alloc | apply pw_below_drewN | apply below_drew1) | exact HB.out))) : w.heap.size ≤ gb295)); have n3_ := Aside0.mk ((by rw [hg]; exact (below_size (by repeat (first | (with_reducible first | exact HB.out | apply below_alloc | apply pw_below_drewN | apply below_drew1) | exact HB.out))) : w.heap.size ≤ gb295)); clear HB; have HB := n0_; have BK295 := n1_; have GW295 := n2_; have GE295 := n3_; clear n0_ n1_ n2_ n3_; clear hb hbox hg) | ((with_reducible refine gate_dst (N := 5) rfl ?_); refine box_event ?hg (N := 5) ?hd (cs := #[.int .i64 0, .int .i64 0]) (t := 35) ?hr ?_; (case hd => rfl); (case hg => rfl); (case hr => first | (go_simp; done) | (go_simp; rfl)); intro gb296 hg w4 hbox hb; have n0_ := Aside0.mk (blk_below (g := gb295) (o := .cells #[.int .i64 0, .int .i64 0] 35 (0, 0)) (by (with_reducible repeat (first | refine blk_drewN ?_ _ | refine blk_drew ?_ | refine blk_alloc ?_ _)); exact BK295.out) hb); have n1_ := Aside0.mk (below_step (by repeat (first | (with_reducible first | exact HB.out | apply below_alloc | apply pw_below_drewN | apply below_drew1 | refine below_set ?_ GE295.out) | exact HB.out)) hb); have n2_ := Aside0.mk (hbox); have n3_ := Aside0.mk ((by rw [hg]; exact (below_size (by repeat (first | (with_reducible first | exact HB.out | apply below_alloc | apply pw_below_drewN | apply below_drew1 | refine below_set ?_ GE295.out) | exact HB.out))) : w.heap.size ≤ gb296)); have n4_ := Aside0.mk ((by rw [hg]; exact (below_size (by repeat (first | (with_reducible first | exact HB.out | apply below_alloc | apply pw_below_drewN | apply below_drew1 | refine below_set ?_ GE295.out) | exact HB.out))) : w.heap.size ≤ gb296)); have n5_ := Aside0.mk ((by rw [hg]; exact Nat.ne_of_lt (blk_lt (g := gb295) (o := .cells #[.int .i64 0, .int .i64 0] 35 (0, 0)) (by (with_reducible repeat (first | refine blk_drewN ?_ _ | refine blk_drew ?_ | refine blk_alloc ?_ _)); exact BK295.out)) : gb295 ≠ gb296)); have n6_ := Aside0.mk ((by rw [hg]; exact Nat.ne_of_gt (blk_lt (g := gb295) (o := .cells #[.int .i64 0, .int .i64 0] 35 (0, 0)) (by (with_reducible repeat (first | refine blk_drewN ?_ _ | refine blk_drew ?_ | refine blk_alloc ?_ _)); exact BK295.out)) : gb296 ≠ gb295)); clear BK295; clear HB; have BK295 := n0_; have HB := n1_; have BK296 := n2_; have GW296 := n3_; have GE296 := n4_; have NB295_296 := n5_; have NB296_295 := n6_; clear n0_ n1_ n2_ n3_ n4_ n5_ n6_; clear hb hbox hg))
  go_loopg [6] k (fun kq v6 w' => ∃ (x6_1 : Int) (x297000_1 : Int) (x297001_1 : Int), v6 = .int .i64 x6_1 ∧ Aside0 (dropperref07_between.l0 kq l0 a1 x6_1 x297000_1 x297001_1 = some (r1, r2)) ∧ Aside0 (kq ≤ k) ∧ Aside0 (w'.heap[gb295]? = some (.cells #[.int .i64 0, .int .i64 0] 35 (0, 0))) ∧ Aside0 (w'.heap[gb296]? = some (.cells #[.int .i64 x297000_1, .int .i64 x297001_1] 35 (0, 0))) ∧ Aside0 (Below w.heap.size w w'))
  case atStart => exact ⟨(0), (0), (0), (by first | rfl | (simp; done) | (simp [*]; done)), H', ⟨Nat.le_refl _⟩, ⟨by (with_reducible repeat (first | refine blk_drewN ?_ _ | refine blk_drew ?_ | refine blk_alloc ?_ _)); exact BK295.out⟩, ⟨by (with_reducible repeat (first | refine blk_drewN ?_ _ | refine blk_drew ?_ | refine blk_alloc ?_ _)); exact BK296.out⟩, ⟨by repeat (first | (with_reducible first | exact HB.out | apply below_alloc | apply pw_below_drewN | apply below_drew1 | refine below_set ?_ GE295.out | refine below_set ?_ GE296.out) | exact HB.out)⟩⟩
  case round =>
    clear H'
    try clear p2
    obtain ⟨x6_1, x297000_1, x297001_1, rfl, HA, HK1, BK295, BK296, HB⟩ := hrel
    cases gk with
    | zero => exact absurd HA.out (by simp [dropperref07_between.l0])
    | succ k1 =>
      have H := HA.out
      clear HA
      simp only [dropperref07_between.l0] at H
      by_cases c5 : x6_1 ≤ a1
      · rw [if_pos c5] at H
        have c5b0 : decide (x6_1 ≤ a1) = true := decide_eq_true c5
        clear c5
        by_cases c6 : 0 ≤ x6_1
        · rw [if_pos c6] at H
          have c6b0 := eq_true c6
          have c6b1 : decide (0 ≤ x6_1) = true := decide_eq_true c6
          clear c6
          by_cases c7 : x6_1 ≤ (wrap64 (a1 + 1))
          · rw [if_pos c7] at H
            have c7b0 := eq_true c7
            have c7b1 : decide (x6_1 ≤ (wrap64 (a1 + 1))) = true := decide_eq_true c7
            by_cases c8 : (wrap64 (a1 + 1)) ≤ (l0.length : Int)
            · rw [if_pos c8] at H
              have c8b0 := eq_true c8
              have c8b1 : decide ((wrap64 (a1 + 1)) ≤ (l0.length : Int)) = true := decide_eq_true c8
              replace H := Option.bind_eq_some_iff.mp H
              obtain ⟨⟨t298, t299⟩, A90, H⟩ := H
              replace H : (dropperref07_between.l1 k1 l0 a1 x6_1 a1 x297000_1 x297001_1 t298 t299) = some (r1, r2) := H
              have A9 := Aside0.mk A90
              clear A90
              have H' := Aside0.mk H
              clear H
              obtain ⟨i010, hi010, _, hsz10, _⟩ := info_parts info3
              obtain ⟨A10, hcut10, hA10, hC10⟩ := print_mid_of (P := Try.prog) (Value.int .i64) 0 22 3 .i64 .i64 Try.underlying22 hi010 hsz10 A0 c0 l0 x6_1 (wrap64 (a1 + 1)) (of_decide_eq_true (by first | (with_reducible assumption) | assumption)) (by first | omega | exact of_decide_eq_true (by first | (with_reducible assumption) | assumption)) (of_decide_eq_true (by first | (with_reducible assumption) | assumption)) HC0.out
              have HR297 := Aside0.mk (Kd.C_of_reads (h1 := fun _ => rfl) (hA10 _ (Kd.reads_of_C HR0.out)))
              have HC297 := Aside0.mk hC10
              clear hA10 hC10 hi010 hsz10
              go_wp2_with (first | ((with_reducible refine gate_callee (f := 77) rfl ?_); refine goesL_ (some 20) rfl rfl Try.func77 (by kernel_rfl) rfl #[.slice A10 ((l0.take ((wrap64 (a1 + 1)) : Int).toNat).drop (x6_1 : Int).toNat).length (c0 - x6_1.toNat)] rfl (by (try simp only [List.map_toArray, List.map_cons, List.map_nil]); first | done | (rw [show ((l0.take ((wrap64 (a1 + 1)) : Int).toNat).drop (x6_1 : Int).toNat).length = ((wrap64 (a1 + 1)).toNat - x6_1.toNat) from (by rw [List.length_drop, List.length_take]; have h_ : ((wrap64 (a1 + 1)) : Int) ≤ (l0.length : Int) := of_decide_eq_true (by first | (with_reducible assumption) | assumption); omega)] <;> rfl) | rfl | (simp only [List.length_drop, List.length_take]; rfl)) ?_; (with_reducible refine (dropperref07_mean.calls k1 _ _ ((l0.take ((wrap64 (a1 + 1)) : Int).toNat).drop (x6_1 : Int).toNat) t298 t299 _ ?side1 ?side2 A9.out).mono ?_); (case side1 => repeat (first | exact (Kd.C_below HR297.out HB.out) | (with_reducible refine Kd.C_alloc ?_ _) | (with_reducible refine Kd.C_drewN ?_ _) | (with_reducible refine Kd.C_drew ?_))); (case side2 => exact HC297.out); rintro e w11 ⟨rfl, hb⟩; refine ⟨_, rfl, ?_⟩; have n0_ := Aside0.mk (blk_below (g := gb295) (o := .cells #[.int .i64 0, .int .i64 0] 35 (0, 0)) (by (with_reducible repeat (first | refine blk_drewN ?_ _ | refine blk_drew ?_ | refine blk_alloc ?_ _)); exact BK295.out) hb); have n1_ := Aside0.mk (blk_below (g := gb296) (o := .cells #[.int .i64 x297000_1, .int .i64 x297001_1] 35 (0, 0)) (by (with_reducible repeat (first | refine blk_drewN ?_ _ | refine blk_drew ?_ | refine blk_alloc ?_ _)); exact BK296.out) hb); have n2_ := Aside0.mk (below_step (by repeat (first | (with_reducible first | exact HB.out | apply below_alloc | apply pw_below_drewN | apply below_drew1 | refine below_set ?_ GE295.out | refine below_set ?_ GE296.out) | exact HB.out)) hb); clear BK295; clear BK296; clear HB; have BK295 := n0_; have BK296 := n1_; have HB := n2_; clear n0_ n1_ n2_; (try clear hb); (try clear hb2); (try clear hk); (try clear hi)) | ((with_reducible refine gate_dst (N := 7) rfl ?_); refine box_event ?hg (N := 7) ?hd (cs := #[.int .i64 0, .int .i64 0]) (t := 35) ?hr ?_; (case hd => rfl); (case hg => rfl); (case hr => first | (go_simp; done) | (go_simp; rfl)); intro gb300 hg w12 hbox hb; have n0_ := Aside0.mk (blk_below (g := gb295) (o := .cells #[.int .i64 0, .int .i64 0] 35 (0, 0)) (by (with_reducible repeat (first | refine blk_drewN ?_ _ | refine blk_drew ?_ | refine blk_alloc ?_ _)); exact BK295.out) hb); have n1_ := Aside0.mk (blk_below (g := gb296) (o := .cells #[.int .i64 x297000_1, .int .i64 x297001_1] 35 (0, 0)) (by (with_reducible repeat (first | refine blk_drewN ?_ _ | refine blk_drew ?_ | refine blk_alloc ?_ _)); exact BK296.out) hb); have n2_ := Aside0.mk (below_step (by repeat (first | (with_reducible first | exact HB.out | apply below_alloc | apply pw_below_drewN | apply below_drew1 | refine below_set ?_ GE295.out | refine below_set ?_ GE296.out) | exact HB.out)) hb); have n3_ := Aside0.mk (hbox); have n4_ := Aside0.mk ((by rw [hg]; exact (below_size (by repeat (first | (with_reducible first | exact HB.out | apply below_alloc | apply pw_below_drewN | apply below_drew1 | refine below_set ?_ GE295.out | refine below_set ?_ GE296.out) | exact HB.out))) : w.heap.size ≤ gb300)); have n5_ := Aside0.mk ((by rw [hg]; exact (below_size (by repeat (first | (with_reducible first | exact HB.out | apply below_alloc | apply pw_below_drewN | apply below_drew1 | refine below_set ?_ GE295.out | refine below_set ?_ GE296.out) | exact HB.out))) : w.heap.size ≤ gb300)); have n6_ := Aside0.mk ((by rw [hg]; exact Nat.ne_of_lt (blk_lt (g := gb295) (o := .cells #[.int .i64 0, .int .i64 0] 35 (0, 0)) (by (with_reducible repeat (first | refine blk_drewN ?_ _ | refine blk_drew ?_ | refine blk_alloc ?_ _)); exact BK295.out)) : gb295 ≠ gb300)); have n7_ := Aside0.mk ((by rw [hg]; exact Nat.ne_of_gt (blk_lt (g := gb295) (o := .cells #[.int .i64 0, .int .i64 0] 35 (0, 0)) (by (with_reducible repeat (first | refine blk_drewN ?_ _ | refine blk_drew ?_ | refine blk_alloc ?_ _)); exact BK295.out)) : gb300 ≠ gb295)); have n8_ := Aside0.mk ((by rw [hg]; exact Nat.ne_of_lt (blk_lt (g := gb296) (o := .cells #[.int .i64 x297000_1, .int .i64 x297001_1] 35 (0, 0)) (by (with_reducible repeat (first | refine blk_drewN ?_ _ | refine blk_drew ?_ | refine blk_alloc ?_ _)); exact BK296.out)) : gb296 ≠ gb300)); have n9_ := Aside0.mk ((by rw [hg]; exact Nat.ne_of_gt (blk_lt (g := gb296) (o := .cells #[.int .i64 x297000_1, .int .i64 x297001_1] 35 (0, 0)) (by (with_reducible repeat (first | refine blk_drewN ?_ _ | refine blk_drew ?_ | refine blk_alloc ?_ _)); exact BK296.out)) : gb300 ≠ gb296)); clear BK295; clear BK296; clear HB; have BK295 := n0_; have BK296 := n1_; have HB := n2_; have BK300 := n3_; have GW300 := n4_; have GE300 := n5_; have NB295_300 := n6_; have NB300_295 := n7_; have NB296_300 := n8_; have NB300_296 := n9_; clear n0_ n1_ n2_ n3_ n4_ n5_ n6_ n7_ n8_ n9_; clear hb hbox hg; have hnb13 := NB300_295.out; have hnc13 := NB295_300.out; have hnb14 := NB300_296.out; have hnc14 := NB296_300.out; have hcz15_0 : w12.cell? ⟨gb300, 0, none⟩ = some (.int .i64 0) := (blk_cell BK300.out 0).trans rfl; have hcz15_1 : w12.cell? ⟨gb300, 1, none⟩ = some (.int .i64 0) := (blk_cell BK300.out 1).trans rfl; have hfz15_0 := blk_frozen BK300.out 0; have hfz15_1 := blk_frozen BK300.out 1))
              go_loopg [8] k1 (fun kq v8 w' => ∃ (x8_2 : Int) (x301000_2 : Int) (x301001_2 : Int), v8 = .int .i64 x8_2 ∧ Aside0 (dropperref07_between.l1 kq l0 a1 x6_1 x8_2 x297000_1 x297001_1 x301000_2 x301001_2 = some (r1, r2)) ∧ Aside0 (kq ≤ k1) ∧ Aside0 (w'.heap[gb295]? = some (.cells #[.int .i64 0, .int .i64 0] 35 (0, 0))) ∧ Aside0 (w'.heap[gb296]? = some (.cells #[.int .i64 x297000_1, .int .i64 x297001_1] 35 (0, 0))) ∧ Aside0 (w'.heap[gb300]? = some (.cells #[.int .i64 x301000_2, .int .i64 x301001_2] 35 (0, 0))) ∧ Aside0 (Below w.heap.size w w'))
              case atStart => exact ⟨(a1), (t298), (t299), (by first | rfl | (simp; done) | (simp [*]; done)), H', ⟨Nat.le_refl _⟩, ⟨by (with_reducible repeat (first | refine blk_drewN ?_ _ | refine blk_drew ?_ | refine blk_alloc ?_ _)); refine blk_far ?_ NB295_300.out _; (with_reducible repeat (first | refine blk_drewN ?_ _ | refine blk_drew ?_ | refine blk_alloc ?_ _)); refine blk_far ?_ NB295_300.out _; (with_reducible repeat (first | refine blk_drewN ?_ _ | refine blk_drew ?_ | refine blk_alloc ?_ _)); exact BK295.out⟩, ⟨by (with_reducible repeat (first | refine blk_drewN ?_ _ | refine blk_drew ?_ | refine blk_alloc ?_ _)); refine blk_far ?_ NB296_300.out _; (with_reducible repeat (first | refine blk_drewN ?_ _ | refine blk_drew ?_ | refine blk_alloc ?_ _)); refine blk_far ?_ NB296_300.out _; (with_reducible repeat (first | refine blk_drewN ?_ _ | refine blk_drew ?_ | refine blk_alloc ?_ _)); exact BK296.out⟩, ⟨by (with_reducible repeat (first | refine blk_drewN ?_ _ | refine blk_drew ?_ | refine blk_alloc ?_ _)); refine blk_put (cs := #[.int .i64 t298, .int .i64 0]) ?_ 1 _ rfl; (with_reducible repeat (first | refine blk_drewN ?_ _ | refine blk_drew ?_ | refine blk_alloc ?_ _)); refine blk_put (cs := #[.int .i64 0, .int .i64 0]) ?_ 0 _ rfl; (with_reducible repeat (first | refine blk_drewN ?_ _ | refine blk_drew ?_ | refine blk_alloc ?_ _)); exact BK300.out⟩, ⟨by repeat (first | (with_reducible first | exact HB.out | apply below_alloc | apply pw_below_drewN | apply below_drew1 | refine below_set ?_ GE295.out | refine below_set ?_ GE296.out | refine below_set ?_ GE300.out) | exact HB.out)⟩⟩
              case round =>
                clear H'
                try clear c1
                try clear p2
                try clear c5
                try clear c5b0
                try clear c6
                try clear c6b0
                try clear c6b1
                try clear p6
                try clear c7
                try clear c7b0
                try clear c7b1
                try clear c8
                try clear c8b0
                try clear c8b1
                try clear c13
                try clear c14
                try clear hcz15_0
                try clear hcz15_1
                try clear hfz15_0
                try clear hfz15_1
                try clear p2
                obtain ⟨x8_2, x301000_2, x301001_2, rfl, HA, HK2, BK295, BK296, BK300, HB⟩ := hrel
                cases gk with
                | zero => exact absurd HA.out (by simp [dropperref07_between.l1])
                | succ k2 =>
                  have H := HA.out
                  clear HA
                  simp only [dropperref07_between.l1] at H
                  by_cases c16 : x8_2 < (l0.length : Int)
                  · rw [if_pos c16] at H
                    have c16b0 : decide (x8_2 < (l0.length : Int)) = true := decide_eq_true c16
                    clear c16
                    by_cases c17 : 0 ≤ x6_1
                    · rw [if_pos c17] at H
                      have c17b0 := eq_true c17
                      have c17b1 : decide (0 ≤ x6_1) = true := decide_eq_true c17
                      clear c17
                      by_cases c18 : x6_1 ≤ (wrap64 (x8_2 + 1))
                      · rw [if_pos c18] at H
                        have c18b0 := eq_true c18
                        have c18b1 : decide (x6_1 ≤ (wrap64 (x8_2 + 1))) = true := decide_eq_true c18
                        by_cases c19 : (wrap64 (x8_2 + 1)) ≤ (l0.length : Int)
                        · rw [if_pos c19] at H
                          have c19b0 := eq_true c19
                          have c19b1 : decide ((wrap64 (x8_2 + 1)) ≤ (l0.length : Int)) = true := decide_eq_true c19
                          replace H := Option.bind_eq_some_iff.mp H
                          obtain ⟨⟨t303, t304⟩, A200, H⟩ := H
                          replace H : ((dropperref07_Less.f t303 t304 x301000_2 x301001_2).bind fun t306 => (if t306 = true then (dropperref07_between.l1 k2 l0 a1 x6_1 (wrap64 (x8_2 + 1)) x297000_1 x297001_1 t303 t304) else (dropperref07_between.l1 k2 l0 a1 x6_1 (wrap64 (x8_2 + 1)) x297000_1 x297001_1 x301000_2 x301001_2))) = some (r1, r2) := H
                          have A20 := Aside0.mk A200
                          clear A200
                          replace H := Option.bind_eq_some_iff.mp H
                          obtain ⟨t306, A210, H⟩ := H
                          replace H : (if t306 = true then (dropperref07_between.l1 k2 l0 a1 x6_1 (wrap64 (x8_2 + 1)) x297000_1 x297001_1 t303 t304) else (dropperref07_between.l1 k2 l0 a1 x6_1 (wrap64 (x8_2 + 1)) x297000_1 x297001_1 x301000_2 x301001_2)) = some (r1, r2) := H
                          have A21 := Aside0.mk A210
                          clear A210
                          by_cases c22 : t306 = true
                          · subst c22
                            have H1 : (dropperref07_between.l1 k2 l0 a1 x6_1 (wrap64 (x8_2 + 1)) x297000_1 x297001_1 t303 t304) = some (r1, r2) := by rw [if_pos rfl] at H; exact H
                            clear H
                            have H := H1
                            clear H1
                            have H' := Aside0.mk H
                            clear H
                            obtain ⟨i023, hi023, _, hsz23, _⟩ := info_parts info3
                            obtain ⟨A23, hcut23, hA23, hC23⟩ := print_mid_of (P := Try.prog) (Value.int .i64) 0 22 3 .i64 .i64 Try.underlying22 hi023 hsz23 A0 c0 l0 x6_1 (wrap64 (x8_2 + 1)) (of_decide_eq_true (by first | (with_reducible assumption) | assumption)) (by first | omega | exact of_decide_eq_true (by first | (with_reducible assumption) | assumption)) (of_decide_eq_true (by first | (with_reducible assumption) | assumption)) HC0.out
                            have HR302 := Aside0.mk (Kd.C_of_reads (h1 := fun _ => rfl) (hA23 _ (Kd.reads_of_C HR0.out)))
                            have HC302 := Aside0.mk hC23
                            clear hA23 hC23 hi023 hsz23
                            go_wp2_with (first | ((with_reducible refine gate_callee (f := 77) rfl ?_); refine goesL_ (some 33) rfl rfl Try.func77 (by kernel_rfl) rfl #[.slice A23 ((l0.take ((wrap64 (x8_2 + 1)) : Int).toNat).drop (x6_1 : Int).toNat).length (c0 - x6_1.toNat)] rfl (by (try simp only [List.map_toArray, List.map_cons, List.map_nil]); first | done | (rw [show ((l0.take ((wrap64 (x8_2 + 1)) : Int).toNat).drop (x6_1 : Int).toNat).length = ((wrap64 (x8_2 + 1)).toNat - x6_1.toNat) from (by rw [List.length_drop, List.length_take]; have h_ : ((wrap64 (x8_2 + 1)) : Int) ≤ (l0.length : Int) := of_decide_eq_true (by first | (with_reducible assumption) | assumption); omega)] <;> rfl) | rfl | (simp only [List.length_drop, List.length_take]; rfl)) ?_; (with_reducible refine (dropperref07_mean.calls k2 _ _ ((l0.take ((wrap64 (x8_2 + 1)) : Int).toNat).drop (x6_1 : Int).toNat) t303 t304 _ ?side1 ?side2 A20.out).mono ?_); (case side1 => repeat (first | exact (Kd.C_below HR302.out HB.out) | (with_reducible refine Kd.C_alloc ?_ _) | (with_reducible refine Kd.C_drewN ?_ _) | (with_reducible refine Kd.C_drew ?_))); (case side2 => exact HC302.out); rintro e w24 ⟨rfl, hb⟩; refine ⟨_, rfl, ?_⟩; have n0_ := Aside0.mk (blk_below (g := gb295) (o := .cells #[.int .i64 0, .int .i64 0] 35 (0, 0)) (by (with_reducible repeat (first | refine blk_drewN ?_ _ | refine blk_drew ?_ | refine blk_alloc ?_ _)); exact BK295.out) hb); have n1_ := Aside0.mk (blk_below (g := gb296) (o := .cells #[.int .i64 x297000_1, .int .i64 x297001_1] 35 (0, 0)) (by (with_reducible repeat (first | refine blk_drewN ?_ _ | refine blk_drew ?_ | refine blk_alloc ?_ _)); exact BK296.out) hb); have n2_ := Aside0.mk (blk_below (g := gb300) (o := .cells #[.int .i64 x301000_2, .int .i64 x301001_2] 35 (0, 0)) (by (with_reducible repeat (first | refine blk_drewN ?_ _ | refine blk_drew ?_ | refine blk_alloc ?_ _)); exact BK300.out) hb); have n3_ := Aside0.mk (below_step (by repeat (first | (with_reducible first | exact HB.out | apply below_alloc | apply pw_below_drewN | apply below_drew1 | refine below_set ?_ GE295.out | refine below_set ?_ GE296.out | refine below_set ?_ GE300.out) | exact HB.out)) hb); clear BK295; clear BK296; clear BK300; clear HB; have BK295 := n0_; have BK296 := n1_; have BK300 := n2_; have HB := n3_; clear n0_ n1_ n2_ n3_; (try clear hb); (try clear hb2); (try clear hk); (try clear hi)) | ((with_reducible refine gate_dst (N := 9) rfl ?_); refine box_event ?hg (N := 9) ?hd (cs := #[.int .i64 0, .int .i64 0]) (t := 35) ?hr ?_; (case hd => rfl); (case hg => rfl); (case hr => first | (go_simp; done) | (go_simp; rfl)); intro gb305 hg w25 hbox hb; have n0_ := Aside0.mk (blk_below (g := gb295) (o := .cells #[.int .i64 0, .int .i64 0] 35 (0, 0)) (by (with_reducible repeat (first | refine blk_drewN ?_ _ | refine blk_drew ?_ | refine blk_alloc ?_ _)); exact BK295.out) hb); have n1_ := Aside0.mk (blk_below (g := gb296) (o := .cells #[.int .i64 x297000_1, .int .i64 x297001_1] 35 (0, 0)) (by (with_reducible repeat (first | refine blk_drewN ?_ _ | refine blk_drew ?_ | refine blk_alloc ?_ _)); exact BK296.out) hb); have n2_ := Aside0.mk (blk_below (g := gb300) (o := .cells #[.int .i64 x301000_2, .int .i64 x301001_2] 35 (0, 0)) (by (with_reducible repeat (first | refine blk_drewN ?_ _ | refine blk_drew ?_ | refine blk_alloc ?_ _)); exact BK300.out) hb); have n3_ := Aside0.mk (below_step (by repeat (first | (with_reducible first | exact HB.out | apply below_alloc | apply pw_below_drewN | apply below_drew1 | refine below_set ?_ GE295.out | refine below_set ?_ GE296.out | refine below_set ?_ GE300.out) | exact HB.out)) hb); have n4_ := Aside0.mk (hbox); have n5_ := Aside0.mk ((by rw [hg]; exact (below_size (by repeat (first | (with_reducible first | exact HB.out | apply below_alloc | apply pw_below_drewN | apply below_drew1 | refine below_set ?_ GE295.out | refine below_set ?_ GE296.out | refine below_set ?_ GE300.out) | exact HB.out))) : w.heap.size ≤ gb305)); have n6_ := Aside0.mk ((by rw [hg]; exact (below_size (by repeat (first | (with_reducible first | exact HB.out | apply below_alloc | apply pw_below_drewN | apply below_drew1 | refine below_set ?_ GE295.out | refine below_set ?_ GE296.out | refine below_set ?_ GE300.out) | exact HB.out))) : w.heap.size ≤ gb305)); have n7_ := Aside0.mk ((by rw [hg]; exact Nat.ne_of_lt (blk_lt (g := gb295) (o := .cells #[.int .i64 0, .int .i64 0] 35 (0, 0)) (by (with_reducible repeat (first | refine blk_drewN ?_ _ | refine blk_drew ?_ | refine blk_alloc ?_ _)); exact BK295.out)) : gb295 ≠ gb305)); have n8_ := Aside0.mk ((by rw [hg]; exact Nat.ne_of_gt (blk_lt (g := gb295) (o := .cells #[.int .i64 0, .int .i64 0] 35 (0, 0)) (by (with_reducible repeat (first | refine blk_drewN ?_ _ | refine blk_drew ?_ | refine blk_alloc ?_ _)); exact BK295.out)) : gb305 ≠ gb295)); have n9_ := Aside0.mk ((by rw [hg]; exact Nat.ne_of_lt (blk_lt (g := gb296) (o := .cells #[.int .i64 x297000_1, .int .i64 x297001_1] 35 (0, 0)) (by (with_reducible repeat (first | refine blk_drewN ?_ _ | refine blk_drew ?_ | refine blk_alloc ?_ _)); exact BK296.out)) : gb296 ≠ gb305)); have n10_ := Aside0.mk ((by rw [hg]; exact Nat.ne_of_gt (blk_lt (g := gb296) (o := .cells #[.int .i64 x297000_1, .int .i64 x297001_1] 35 (0, 0)) (by (with_reducible repeat (first | refine blk_drewN ?_ _ | refine blk_drew ?_ | refine blk_alloc ?_ _)); exact BK296.out)) : gb305 ≠ gb296)); have n11_ := Aside0.mk ((by rw [hg]; exact Nat.ne_of_lt (blk_lt (g := gb300) (o := .cells #[.int .i64 x301000_2, .int .i64 x301001_2] 35 (0, 0)) (by (with_reducible repeat (first | refine blk_drewN ?_ _ | refine blk_drew ?_ | refine blk_alloc ?_ _)); exact BK300.out)) : gb300 ≠ gb305)); have n12_ := Aside0.mk ((by rw [hg]; exact Nat.ne_of_gt (blk_lt (g := gb300) (o := .cells #[.int .i64 x301000_2, .int .i64 x301001_2] 35 (0, 0)) (by (with_reducible repeat (first | refine blk_drewN ?_ _ | refine blk_drew ?_ | refine blk_alloc ?_ _)); exact BK300.out)) : gb305 ≠ gb300)); clear BK295; clear BK296; clear BK300; clear HB; have BK295 := n0_; have BK296 := n1_; have BK300 := n2_; have HB := n3_; have BK305 := n4_; have GW305 := n5_; have GE305 := n6_; have NB295_305 := n7_; have NB305_295 := n8_; have NB296_305 := n9_; have NB305_296 := n10_; have NB300_305 := n11_; have NB305_300 := n12_; clear n0_ n1_ n2_ n3_ n4_ n5_ n6_ n7_ n8_ n9_ n10_ n11_ n12_; clear hb hbox hg; have hnb26 := NB305_295.out; have hnc26 := NB295_305.out; have hnb27 := NB305_296.out; have hnc27 := NB296_305.out; have hnb28 := NB305_300.out; have hnc28 := NB300_305.out; have hcz29_0 : w25.cell? ⟨gb305, 0, none⟩ = some (.int .i64 0) := (blk_cell BK305.out 0).trans rfl; have hcz29_1 : w25.cell? ⟨gb305, 1, none⟩ = some (.int .i64 0) := (blk_cell BK305.out 1).trans rfl; have hfz29_0 := blk_frozen BK305.out 0; have hfz29_1 := blk_frozen BK305.out 1; have hnb30 := NB300_295.out; have hnc30 := NB295_300.out; have hnb31 := NB300_296.out; have hnc31 := NB296_300.out; have hcz32_0 : w25.cell? ⟨gb300, 0, none⟩ = some (.int .i64 x301000_2) := (blk_cell BK300.out 0).trans rfl; have hcz32_1 : w25.cell? ⟨gb300, 1, none⟩ = some (.int .i64 x301001_2) := (blk_cell BK300.out 1).trans rfl; have hfz32_0 := blk_frozen BK300.out 0; have hfz32_1 := blk_frozen BK300.out 1) | ((with_reducible refine gate_callee (f := 21) rfl ?_); refine goesL_ (some 36) rfl rfl Try.func21 (by kernel_rfl) rfl #[.agg #[.int .i64 t303, .int .i64 t304], .agg #[.int .i64 x301000_2, .int .i64 x301001_2]] rfl (by (try simp only [List.map_toArray, List.map_cons, List.map_nil]); first | done | rfl | (simp only [List.length_drop, List.length_take]; rfl)) ?_; (with_reducible refine (dropperref07_Less.calls t303 t304 x301000_2 x301001_2 true _ A21.out).mono ?_); rintro e w33 ⟨rfl, hb⟩; refine ⟨_, rfl, ?_⟩; have n0_ := Aside0.mk (blk_below (g := gb295) (o := .cells #[.int .i64 0, .int .i64 0] 35 (0, 0)) (by (with_reducible repeat (first | refine blk_drewN ?_ _ | refine blk_drew ?_ | refine blk_alloc ?_ _)); refine blk_far ?_ NB295_305.out _; (with_reducible repeat (first | refine blk_drewN ?_ _ | refine blk_drew ?_ | refine blk_alloc ?_ _)); refine blk_far ?_ NB295_305.out _; (with_reducible repeat (first | refine blk_drewN ?_ _ | refine blk_drew ?_ | refine blk_alloc ?_ _)); exact BK295.out) hb); have n1_ := Aside0.mk (blk_below (g := gb296) (o := .cells #[.int .i64 x297000_1, .int .i64 x297001_1] 35 (0, 0)) (by (with_reducible repeat (first | refine blk_drewN ?_ _ | refine blk_drew ?_ | refine blk_alloc ?_ _)); refine blk_far ?_ NB296_305.out _; (with_reducible repeat (first | refine blk_drewN ?_ _ | refine blk_drew ?_ | refine blk_alloc ?_ _)); refine blk_far ?_ NB296_305.out _; (with_reducible repeat (first | refine blk_drewN ?_ _ | refine blk_drew ?_ | refine blk_alloc ?_ _)); exact BK296.out) hb); have n2_ := Aside0.mk (blk_below (g := gb300) (o := .cells #[.int .i64 x301000_2, .int .i64 x301001_2] 35 (0, 0)) (by (with_reducible repeat (first | refine blk_drewN ?_ _ | refine blk_drew ?_ | refine blk_alloc ?_ _)); refine blk_far ?_ NB300_305.out _; (with_reducible repeat (first | refine blk_drewN ?_ _ | refine blk_drew ?_ | refine blk_alloc ?_ _)); refine blk_far ?_ NB300_305.out _; (with_reducible repeat (first | refine blk_drewN ?_ _ | refine blk_drew ?_ | refine blk_alloc ?_ _)); exact BK300.out) hb); have n3_ := Aside0.mk (blk_below (g := gb305) (o := .cells #[.int .i64 t303, .int .i64 t304] 35 (0, 0)) (by (with_reducible repeat (first | refine blk_drewN ?_ _ | refine blk_drew ?_ | refine blk_alloc ?_ _)); refine blk_put (cs := #[.int .i64 t303, .int .i64 0]) ?_ 1 _ rfl; (with_reducible repeat (first | refine blk_drewN ?_ _ | refine blk_drew ?_ | refine blk_alloc ?_ _)); refine blk_put (cs := #[.int .i64 0, .int .i64 0]) ?_ 0 _ rfl; (with_reducible repeat (first | refine blk_drewN ?_ _ | refine blk_drew ?_ | refine blk_alloc ?_ _)); exact BK305.out) hb); have n4_ := Aside0.mk (below_step (by repeat (first | (with_reducible first | exact HB.out | apply below_alloc | apply pw_below_drewN | apply below_drew1 | refine below_set ?_ GE295.out | refine below_set ?_ GE296.out | refine below_set ?_ GE300.out | refine below_set ?_ GE305.out) | exact HB.out)) hb); clear BK295; clear BK296; clear BK300; clear BK305; clear HB; have BK295 := n0_; have BK296 := n1_; have BK300 := n2_; have BK305 := n3_; have HB := n4_; clear n0_ n1_ n2_ n3_ n4_; (try clear hb); (try clear hb2); (try clear hk); (try clear hi); have hcz34_0 : w33.cell? ⟨gb305, 0, none⟩ = some (.int .i64 t303) := (blk_cell BK305.out 0).trans rfl; have hcz34_1 : w33.cell? ⟨gb305, 1, none⟩ = some (.int .i64 t304) := (blk_cell BK305.out 1).trans rfl; have hfz34_0 := blk_frozen BK305.out 0; have hfz34_1 := blk_frozen BK305.out 1; have hcz35_0 : w33.cell? ⟨gb300, 0, none⟩ = some (.int .i64 x301000_2) := (blk_cell BK300.out 0).trans rfl; have hcz35_1 : w33.cell? ⟨gb300, 1, none⟩ = some (.int .i64 x301001_2) := (blk_cell BK300.out 1).trans rfl; have hfz35_0 := blk_frozen BK300.out 0; have hfz35_1 := blk_frozen BK300.out 1))
                            go_roundg k2
                            case measure => have := HK1.out; have := HK2.out; omega
                            case rel => exact ⟨(wrap64 (x8_2 + 1)), (t303), (t304), (by first | rfl | (simp; done) | (simp [*]; done)), H', ⟨by have := HK1.out; have := HK2.out; omega⟩, ⟨by (with_reducible repeat (first | refine blk_drewN ?_ _ | refine blk_drew ?_ | refine blk_alloc ?_ _)); refine blk_far ?_ NB295_300.out _; (with_reducible repeat (first | refine blk_drewN ?_ _ | refine blk_drew ?_ | refine blk_alloc ?_ _)); refine blk_far ?_ NB295_300.out _; (with_reducible repeat (first | refine blk_drewN ?_ _ | refine blk_drew ?_ | refine blk_alloc ?_ _)); exact BK295.out⟩, ⟨by (with_reducible repeat (first | refine blk_drewN ?_ _ | refine blk_drew ?_ | refine blk_alloc ?_ _)); refine blk_far ?_ NB296_300.out _; (with_reducible repeat (first | refine blk_drewN ?_ _ | refine blk_drew ?_ | refine blk_alloc ?_ _)); refine blk_far ?_ NB296_300.out _; (with_reducible repeat (first | refine blk_drewN ?_ _ | refine blk_drew ?_ | refine blk_alloc ?_ _)); exact BK296.out⟩, ⟨by (with_reducible repeat (first | refine blk_drewN ?_ _ | refine blk_drew ?_ | refine blk_alloc ?_ _)); refine blk_put (cs := #[.int .i64 t303, .int .i64 x301001_2]) ?_ 1 _ rfl; (with_reducible repeat (first | refine blk_drewN ?_ _ | refine blk_drew ?_ | refine blk_alloc ?_ _)); refine blk_put (cs := #[.int .i64 x301000_2, .int .i64 x301001_2]) ?_ 0 _ rfl; (with_reducible repeat (first | refine blk_drewN ?_ _ | refine blk_drew ?_ | refine blk_alloc ?_ _)); exact BK300.out⟩, ⟨by repeat (first | (with_reducible first | exact HB.out | apply below_alloc | apply pw_below_drewN | apply below_drew1 | refine below_set ?_ GE295.out | refine below_set ?_ GE296.out | refine below_set ?_ GE300.out | refine below_set ?_ GE305.out) | exact HB.out)⟩⟩
                          · replace c22 := Bool.eq_false_iff.mpr c22
                            subst c22
                            have H1 : (dropperref07_between.l1 k2 l0 a1 x6_1 (wrap64 (x8_2 + 1)) x297000_1 x297001_1 x301000_2 x301001_2) = some (r1, r2) := by rw [if_neg (show ¬ (false = true) by decide)] at H; exact H
                            clear H
                            have H := H1
                            clear H1
                            have H' := Aside0.mk H
                            clear H
                            obtain ⟨i036, hi036, _, hsz36, _⟩ := info_parts info3
                            obtain ⟨A36, hcut36, hA36, hC36⟩ := print_mid_of (P := Try.prog) (Value.int .i64) 0 22 3 .i64 .i64 Try.underlying22 hi036 hsz36 A0 c0 l0 x6_1 (wrap64 (x8_2 + 1)) (of_decide_eq_true (by first | (with_reducible assumption) | assumption)) (by first | omega | exact of_decide_eq_true (by first | (with_reducible assumption) | assumption)) (of_decide_eq_true (by first | (with_reducible assumption) | assumption)) HC0.out
                            have HR302 := Aside0.mk (Kd.C_of_reads (h1 := fun _ => rfl) (hA36 _ (Kd.reads_of_C HR0.out)))
                            have HC302 := Aside0.mk hC36
                            clear hA36 hC36 hi036 hsz36
                            go_wp2_with (first | ((with_reducible refine gate_callee (f := 77) rfl ?_); refine goesL_ (some 33) rfl rfl Try.func77 (by kernel_rfl) rfl #[.slice A36 ((l0.take ((wrap64 (x8_2 + 1)) : Int).toNat).drop (x6_1 : Int).toNat).length (c0 - x6_1.toNat)] rfl (by (try simp only [List.map_toArray, List.map_cons, List.map_nil]); first | done | (rw [show ((l0.take ((wrap64 (x8_2 + 1)) : Int).toNat).drop (x6_1 : Int).toNat).length = ((wrap64 (x8_2 + 1)).toNat - x6_1.toNat) from (by rw [List.length_drop, List.length_take]; have h_ : ((wrap64 (x8_2 + 1)) : Int) ≤ (l0.length : Int) := of_decide_eq_true (by first | (with_reducible assumption) | assumption); omega)] <;> rfl) | rfl | (simp only [List.length_drop, List.length_take]; rfl)) ?_; (with_reducible refine (dropperref07_mean.calls k2 _ _ ((l0.take ((wrap64 (x8_2 + 1)) : Int).toNat).drop (x6_1 : Int).toNat) t303 t304 _ ?side1 ?side2 A20.out).mono ?_); (case side1 => repeat (first | exact (Kd.C_below HR302.out HB.out) | (with_reducible refine Kd.C_alloc ?_ _) | (with_reducible refine Kd.C_drewN ?_ _) | (with_reducible refine Kd.C_drew ?_))); (case side2 => exact HC302.out); rintro e w37 ⟨rfl, hb⟩; refine ⟨_, rfl, ?_⟩; have n0_ := Aside0.mk (blk_below (g := gb295) (o := .cells #[.int .i64 0, .int .i64 0] 35 (0, 0)) (by (with_reducible repeat (first | refine blk_drewN ?_ _ | refine blk_drew ?_ | refine blk_alloc ?_ _)); exact BK295.out) hb); have n1_ := Aside0.mk (blk_below (g := gb296) (o := .cells #[.int .i64 x297000_1, .int .i64 x297001_1] 35 (0, 0)) (by (with_reducible repeat (first | refine blk_drewN ?_ _ | refine blk_drew ?_ | refine blk_alloc ?_ _)); exact BK296.out) hb); have n2_ := Aside0.mk (blk_below (g := gb300) (o := .cells #[.int .i64 x301000_2, .int .i64 x301001_2] 35 (0, 0)) (by (with_reducible repeat (first | refine blk_drewN ?_ _ | refine blk_drew ?_ | refine blk_alloc ?_ _)); exact BK300.out) hb); have n3_ := Aside0.mk (below_step (by repeat (first | (with_reducible first | exact HB.out | apply below_alloc | apply pw_below_drewN | apply below_drew1 | refine below_set ?_ GE295.out | refine below_set ?_ GE296.out | refine below_set ?_ GE300.out) | exact HB.out)) hb); clear BK295; clear BK296; clear BK300; clear HB; have BK295 := n0_; have BK296 := n1_; have BK300 := n2_; have HB := n3_; clear n0_ n1_ n2_ n3_; (try clear hb); (try clear hb2); (try clear hk); (try clear hi)) | ((with_reducible refine gate_dst (N := 9) rfl ?_); refine box_event ?hg (N := 9) ?hd (cs := #[.int .i64 0, .int .i64 0]) (t := 35) ?hr ?_; (case hd => rfl); (case hg => rfl); (case hr => first | (go_simp; done) | (go_simp; rfl)); intro gb305 hg w38 hbox hb; have n0_ := Aside0.mk (blk_below (g := gb295) (o := .cells #[.int .i64 0, .int .i64 0] 35 (0, 0)) (by (with_reducible repeat (first | refine blk_drewN ?_ _ | refine blk_drew ?_ | refine blk_alloc ?_ _)); exact BK295.out) hb); have n1_ := Aside0.mk (blk_below (g := gb296) (o := .cells #[.int .i64 x297000_1, .int .i64 x297001_1] 35 (0, 0)) (by (with_reducible repeat (first | refine blk_drewN ?_ _ | refine blk_drew ?_ | refine blk_alloc ?_ _)); exact BK296.out) hb); have n2_ := Aside0.mk (blk_below (g := gb300) (o := .cells #[.int .i64 x301000_2, .int .i64 x301001_2] 35 (0, 0)) (by (with_reducible repeat (first | refine blk_drewN ?_ _ | refine blk_drew ?_ | refine blk_alloc ?_ _)); exact BK300.out) hb); have n3_ := Aside0.mk (below_step (by repeat (first | (with_reducible first | exact HB.out | apply below_alloc | apply pw_below_drewN | apply below_drew1 | refine below_set ?_ GE295.out | refine below_set ?_ GE296.out | refine below_set ?_ GE300.out) | exact HB.out)) hb); have n4_ := Aside0.mk (hbox); have n5_ := Aside0.mk ((by rw [hg]; exact (below_size (by repeat (first | (with_reducible first | exact HB.out | apply below_alloc | apply pw_below_drewN | apply below_drew1 | refine below_set ?_ GE295.out | refine below_set ?_ GE296.out | refine below_set ?_ GE300.out) | exact HB.out))) : w.heap.size ≤ gb305)); have n6_ := Aside0.mk ((by rw [hg]; exact (below_size (by repeat (first | (with_reducible first | exact HB.out | apply below_alloc | apply pw_below_drewN | apply below_drew1 | refine below_set ?_ GE295.out | refine below_set ?_ GE296.out | refine below_set ?_ GE300.out) | exact HB.out))) : w.heap.size ≤ gb305)); have n7_ := Aside0.mk ((by rw [hg]; exact Nat.ne_of_lt (blk_lt (g := gb295) (o := .cells #[.int .i64 0, .int .i64 0] 35 (0, 0)) (by (with_reducible repeat (first | refine blk_drewN ?_ _ | refine blk_drew ?_ | refine blk_alloc ?_ _)); exact BK295.out)) : gb295 ≠ gb305)); have n8_ := Aside0.mk ((by rw [hg]; exact Nat.ne_of_gt (blk_lt (g := gb295) (o := .cells #[.int .i64 0, .int .i64 0] 35 (0, 0)) (by (with_reducible repeat (first | refine blk_drewN ?_ _ | refine blk_drew ?_ | refine blk_alloc ?_ _)); exact BK295.out)) : gb305 ≠ gb295)); have n9_ := Aside0.mk ((by rw [hg]; exact Nat.ne_of_lt (blk_lt (g := gb296) (o := .cells #[.int .i64 x297000_1, .int .i64 x297001_1] 35 (0, 0)) (by (with_reducible repeat (first | refine blk_drewN ?_ _ | refine blk_drew ?_ | refine blk_alloc ?_ _)); exact BK296.out)) : gb296 ≠ gb305)); have n10_ := Aside0.mk ((by rw [hg]; exact Nat.ne_of_gt (blk_lt (g := gb296) (o := .cells #[.int .i64 x297000_1, .int .i64 x297001_1] 35 (0, 0)) (by (with_reducible repeat (first | refine blk_drewN ?_ _ | refine blk_drew ?_ | refine blk_alloc ?_ _)); exact BK296.out)) : gb305 ≠ gb296)); have n11_ := Aside0.mk ((by rw [hg]; exact Nat.ne_of_lt (blk_lt (g := gb300) (o := .cells #[.int .i64 x301000_2, .int .i64 x301001_2] 35 (0, 0)) (by (with_reducible repeat (first | refine blk_drewN ?_ _ | refine blk_drew ?_ | refine blk_alloc ?_ _)); exact BK300.out)) : gb300 ≠ gb305)); have n12_ := Aside0.mk ((by rw [hg]; exact Nat.ne_of_gt (blk_lt (g := gb300) (o := .cells #[.int .i64 x301000_2, .int .i64 x301001_2] 35 (0, 0)) (by (with_reducible repeat (first | refine blk_drewN ?_ _ | refine blk_drew ?_ | refine blk_alloc ?_ _)); exact BK300.out)) : gb305 ≠ gb300)); clear BK295; clear BK296; clear BK300; clear HB; have BK295 := n0_; have BK296 := n1_; have BK300 := n2_; have HB := n3_; have BK305 := n4_; have GW305 := n5_; have GE305 := n6_; have NB295_305 := n7_; have NB305_295 := n8_; have NB296_305 := n9_; have NB305_296 := n10_; have NB300_305 := n11_; have NB305_300 := n12_; clear n0_ n1_ n2_ n3_ n4_ n5_ n6_ n7_ n8_ n9_ n10_ n11_ n12_; clear hb hbox hg; have hnb39 := NB305_295.out; have hnc39 := NB295_305.out; have hnb40 := NB305_296.out; have hnc40 := NB296_305.out; have hnb41 := NB305_300.out; have hnc41 := NB300_305.out; have hcz42_0 : w38.cell? ⟨gb305, 0, none⟩ = some (.int .i64 0) := (blk_cell BK305.out 0).trans rfl; have hcz42_1 : w38.cell? ⟨gb305, 1, none⟩ = some (.int .i64 0) := (blk_cell BK305.out 1).trans rfl; have hfz42_0 := blk_frozen BK305.out 0; have hfz42_1 := blk_frozen BK305.out 1; have hnb43 := NB300_295.out; have hnc43 := NB295_300.out; have hnb44 := NB300_296.out; have hnc44 := NB296_300.out; have hcz45_0 : w38.cell? ⟨gb300, 0, none⟩ = some (.int .i64 x301000_2) := (blk_cell BK300.out 0).trans rfl; have hcz45_1 : w38.cell? ⟨gb300, 1, none⟩ = some (.int .i64 x301001_2) := (blk_cell BK300.out 1).trans rfl; have hfz45_0 := blk_frozen BK300.out 0; have hfz45_1 := blk_frozen BK300.out 1) | ((with_reducible refine gate_callee (f := 21) rfl ?_); refine goesL_ (some 36) rfl rfl Try.func21 (by kernel_rfl) rfl #[.agg #[.int .i64 t303, .int .i64 t304], .agg #[.int .i64 x301000_2, .int .i64 x301001_2]] rfl (by (try simp only [List.map_toArray, List.map_cons, List.map_nil]); first | done | rfl | (simp only [List.length_drop, List.length_take]; rfl)) ?_; (with_reducible refine (dropperref07_Less.calls t303 t304 x301000_2 x301001_2 false _ A21.out).mono ?_); rintro e w46 ⟨rfl, hb⟩; refine ⟨_, rfl, ?_⟩; have n0_ := Aside0.mk (blk_below (g := gb295) (o := .cells #[.int .i64 0, .int .i64 0] 35 (0, 0)) (by (with_reducible repeat (first | refine blk_drewN ?_ _ | refine blk_drew ?_ | refine blk_alloc ?_ _)); refine blk_far ?_ NB295_305.out _; (with_reducible repeat (first | refine blk_drewN ?_ _ | refine blk_drew ?_ | refine blk_alloc ?_ _)); refine blk_far ?_ NB295_305.out _; (with_reducible repeat (first | refine blk_drewN ?_ _ | refine blk_drew ?_ | refine blk_alloc ?_ _)); exact BK295.out) hb); have n1_ := Aside0.mk (blk_below (g := gb296) (o := .cells #[.int .i64 x297000_1, .int .i64 x297001_1] 35 (0, 0)) (by (with_reducible repeat (first | refine blk_drewN ?_ _ | refine blk_drew ?_ | refine blk_alloc ?_ _)); refine blk_far ?_ NB296_305.out _; (with_reducible repeat (first | refine blk_drewN ?_ _ | refine blk_drew ?_ | refine blk_alloc ?_ _)); refine blk_far ?_ NB296_305.out _; (with_reducible repeat (first | refine blk_drewN ?_ _ | refine blk_drew ?_ | refine blk_alloc ?_ _)); exact BK296.out) hb); have n2_ := Aside0.mk (blk_below (g := gb300) (o := .cells #[.int .i64 x301000_2, .int .i64 x301001_2] 35 (0, 0)) (by (with_reducible repeat (first | refine blk_drewN ?_ _ | refine blk_drew ?_ | refine blk_alloc ?_ _)); refine blk_far ?_ NB300_305.out _; (with_reducible repeat (first | refine blk_drewN ?_ _ | refine blk_drew ?_ | refine blk_alloc ?_ _)); refine blk_far ?_ NB300_305.out _; (with_reducible repeat (first | refine blk_drewN ?_ _ | refine blk_drew ?_ | refine blk_alloc ?_ _)); exact BK300.out) hb); have n3_ := Aside0.mk (blk_below (g := gb305) (o := .cells #[.int .i64 t303, .int .i64 t304] 35 (0, 0)) (by (with_reducible repeat (first | refine blk_drewN ?_ _ | refine blk_drew ?_ | refine blk_alloc ?_ _)); refine blk_put (cs := #[.int .i64 t303, .int .i64 0]) ?_ 1 _ rfl; (with_reducible repeat (first | refine blk_drewN ?_ _ | refine blk_drew ?_ | refine blk_alloc ?_ _)); refine blk_put (cs := #[.int .i64 0, .int .i64 0]) ?_ 0 _ rfl; (with_reducible repeat (first | refine blk_drewN ?_ _ | refine blk_drew ?_ | refine blk_alloc ?_ _)); exact BK305.out) hb); have n4_ := Aside0.mk (below_step (by repeat (first | (with_reducible first | exact HB.out | apply below_alloc | apply pw_below_drewN | apply below_drew1 | refine below_set ?_ GE295.out | refine below_set ?_ GE296.out | refine below_set ?_ GE300.out | refine below_set ?_ GE305.out) | exact HB.out)) hb); clear BK295; clear BK296; clear BK300; clear BK305; clear HB; have BK295 := n0_; have BK296 := n1_; have BK300 := n2_; have BK305 := n3_; have HB := n4_; clear n0_ n1_ n2_ n3_ n4_; (try clear hb); (try clear hb2); (try clear hk); (try clear hi)))
                            go_roundg k2
                            case measure => have := HK1.out; have := HK2.out; omega
                            case rel => exact ⟨(wrap64 (x8_2 + 1)), (x301000_2), (x301001_2), (by first | rfl | (simp; done) | (simp [*]; done)), H', ⟨by have := HK1.out; have := HK2.out; omega⟩, ⟨by (with_reducible repeat (first | refine blk_drewN ?_ _ | refine blk_drew ?_ | refine blk_alloc ?_ _)); exact BK295.out⟩, ⟨by (with_reducible repeat (first | refine blk_drewN ?_ _ | refine blk_drew ?_ | refine blk_alloc ?_ _)); exact BK296.out⟩, ⟨by (with_reducible repeat (first | refine blk_drewN ?_ _ | refine blk_drew ?_ | refine blk_alloc ?_ _)); exact BK300.out⟩, ⟨by repeat (first | (with_reducible first | exact HB.out | apply below_alloc | apply pw_below_drewN | apply below_drew1 | refine below_set ?_ GE295.out | refine below_set ?_ GE296.out | refine below_set ?_ GE300.out | refine below_set ?_ GE305.out) | exact HB.out)⟩⟩
                        · rw [if_neg c19] at H
                          exact absurd H (by simp)
                      · rw [if_neg c18] at H
                        exact absurd H (by simp)
                    · rw [if_neg c17] at H
                      exact absurd H (by simp)
                  · rw [if_neg c16] at H
                    have c16b0 : decide (x8_2 < (l0.length : Int)) = false := decide_eq_false c16
                    clear c16
                    by_cases c47 : x6_1 = 0
                    · rw [if_pos c47] at H
                      have c47b0 : (x6_1 == 0) = true := beq_iff_eq.mpr c47
                      have c47b1 : (x6_1 != 0) = false := bne_eq_false_iff_eq.mpr c47
                      clear c47
                      have H' := Aside0.mk H
                      clear H
                      have hnb48 := NB300_295.out
                      have hnc48 := NB295_300.out
                      have hnb49 := NB300_296.out
                      have hnc49 := NB296_300.out
                      have hcz50_0 : wr.cell? ⟨gb300, 0, none⟩ = some (.int .i64 x301000_2) := (blk_cell BK300.out 0).trans rfl
                      have hcz50_1 : wr.cell? ⟨gb300, 1, none⟩ = some (.int .i64 x301001_2) := (blk_cell BK300.out 1).trans rfl
                      have hfz50_0 := blk_frozen BK300.out 0
                      have hfz50_1 := blk_frozen BK300.out 1
                      have hnb51 := NB296_295.out
                      have hnc51 := NB295_296.out
                      have hcz52_0 : wr.cell? ⟨gb296, 0, none⟩ = some (.int .i64 x297000_1) := (blk_cell BK296.out 0).trans rfl
                      have hcz52_1 : wr.cell? ⟨gb296, 1, none⟩ = some (.int .i64 x297001_1) := (blk_cell BK296.out 1).trans rfl
                      have hfz52_0 := blk_frozen BK296.out 0
                      have hfz52_1 := blk_frozen BK296.out 1
                      go_wp2
                      go_roundg k2
                      case measure => have := HK1.out; have := HK2.out; omega
                      case rel => exact ⟨(wrap64 (x6_1 + 1)), (x301000_2), (x301001_2), (by first | rfl | (simp; done) | (simp [*]; done)), H', ⟨by have := HK1.out; have := HK2.out; omega⟩, ⟨by (with_reducible repeat (first | refine blk_drewN ?_ _ | refine blk_drew ?_ | refine blk_alloc ?_ _)); refine blk_far ?_ NB295_296.out _; (with_reducible repeat (first | refine blk_drewN ?_ _ | refine blk_drew ?_ | refine blk_alloc ?_ _)); refine blk_far ?_ NB295_296.out _; (with_reducible repeat (first | refine blk_drewN ?_ _ | refine blk_drew ?_ | refine blk_alloc ?_ _)); exact BK295.out⟩, ⟨by (with_reducible repeat (first | refine blk_drewN ?_ _ | refine blk_drew ?_ | refine blk_alloc ?_ _)); refine blk_put (cs := #[.int .i64 x301000_2, .int .i64 x297001_1]) ?_ 1 _ rfl; (with_reducible repeat (first | refine blk_drewN ?_ _ | refine blk_drew ?_ | refine blk_alloc ?_ _)); refine blk_put (cs := #[.int .i64 x297000_1, .int .i64 x297001_1]) ?_ 0 _ rfl; (with_reducible repeat (first | refine blk_drewN ?_ _ | refine blk_drew ?_ | refine blk_alloc ?_ _)); exact BK296.out⟩, ⟨by repeat (first | (with_reducible first | exact HB.out | apply below_alloc | apply pw_below_drewN | apply below_drew1 | refine below_set ?_ GE295.out | refine below_set ?_ GE296.out | refine below_set ?_ GE300.out) | exact HB.out)⟩⟩
                    · rw [if_neg c47] at H
                      have c47b0 : (x6_1 == 0) = false := beq_eq_false_iff_ne.mpr c47
                      have c47b1 : (x6_1 != 0) = true := bne_iff_ne.mpr c47
                      replace H := Option.bind_eq_some_iff.mp H
                      obtain ⟨t301, A530, H⟩ := H
                      replace H : (if t301 = true then (dropperref07_between.l0 k2 l0 a1 (wrap64 (x6_1 + 1)) x301000_2 x301001_2) else (dropperref07_between.l0 k2 l0 a1 (wrap64 (x6_1 + 1)) x297000_1 x297001_1)) = some (r1, r2) := H
                      have A53 := Aside0.mk A530
                      clear A530
                      by_cases c54 : t301 = true
                      · subst c54
                        have H1 : (dropperref07_between.l0 k2 l0 a1 (wrap64 (x6_1 + 1)) x301000_2 x301001_2) = some (r1, r2) := by rw [if_pos rfl] at H; exact H
                        clear H
                        have H := H1
                        clear H1
                        have H' := Aside0.mk H
                        clear H
                        have hnb55 := NB296_295.out
                        have hnc55 := NB295_296.out
                        have hnb56 := NB296_300.out
                        have hnc56 := NB300_296.out
                        have hcz57_0 : wr.cell? ⟨gb296, 0, none⟩ = some (.int .i64 x297000_1) := (blk_cell BK296.out 0).trans rfl
                        have hcz57_1 : wr.cell? ⟨gb296, 1, none⟩ = some (.int .i64 x297001_1) := (blk_cell BK296.out 1).trans rfl
                        have hfz57_0 := blk_frozen BK296.out 0
                        have hfz57_1 := blk_frozen BK296.out 1
                        have hnb58 := NB300_295.out
                        have hnc58 := NB295_300.out
                        have hcz59_0 : wr.cell? ⟨gb300, 0, none⟩ = some (.int .i64 x301000_2) := (blk_cell BK300.out 0).trans rfl
                        have hcz59_1 : wr.cell? ⟨gb300, 1, none⟩ = some (.int .i64 x301001_2) := (blk_cell BK300.out 1).trans rfl
                        have hfz59_0 := blk_frozen BK300.out 0
                        have hfz59_1 := blk_frozen BK300.out 1
                        go_wp2_with (first | (go_at_call 21; (with_reducible refine (dropperref07_Less.calls x297000_1 x297001_1 x301000_2 x301001_2 true _ A53.out).mono ?_); rintro e w60 ⟨rfl, hb⟩; have n0_ := Aside0.mk (blk_below (g := gb295) (o := .cells #[.int .i64 0, .int .i64 0] 35 (0, 0)) (by (with_reducible repeat (first | refine blk_drewN ?_ _ | refine blk_drew ?_ | refine blk_alloc ?_ _)); exact BK295.out) hb); have n1_ := Aside0.mk (blk_below (g := gb296) (o := .cells #[.int .i64 x297000_1, .int .i64 x297001_1] 35 (0, 0)) (by (with_reducible repeat (first | refine blk_drewN ?_ _ | refine blk_drew ?_ | refine blk_alloc ?_ _)); exact BK296.out) hb); have n2_ := Aside0.mk (blk_below (g := gb300) (o := .cells #[.int .i64 x301000_2, .int .i64 x301001_2] 35 (0, 0)) (by (with_reducible repeat (first | refine blk_drewN ?_ _ | refine blk_drew ?_ | refine blk_alloc ?_ _)); exact BK300.out) hb); have n3_ := Aside0.mk (below_step (by repeat (first | (with_reducible first | exact HB.out | apply below_alloc | apply pw_below_drewN | apply below_drew1 | refine below_set ?_ GE295.out | refine below_set ?_ GE296.out | refine below_set ?_ GE300.out) | exact HB.out)) hb); clear BK295; clear BK296; clear BK300; clear HB; have BK295 := n0_; have BK296 := n1_; have BK300 := n2_; have HB := n3_; clear n0_ n1_ n2_ n3_; (try clear hb); (try clear hb2); (try clear hk); (try clear hi); have hcz61_0 : w60.cell? ⟨gb300, 0, none⟩ = some (.int .i64 x301000_2) := (blk_cell BK300.out 0).trans rfl; have hcz61_1 : w60.cell? ⟨gb300, 1, none⟩ = some (.int .i64 x301001_2) := (blk_cell BK300.out 1).trans rfl; have hfz61_0 := blk_frozen BK300.out 0; have hfz61_1 := blk_frozen BK300.out 1; have hcz62_0 : w60.cell? ⟨gb296, 0, none⟩ = some (.int .i64 x297000_1) := (blk_cell BK296.out 0).trans rfl; have hcz62_1 : w60.cell? ⟨gb296, 1, none⟩ = some (.int .i64 x297001_1) := (blk_cell BK296.out 1).trans rfl; have hfz62_0 := blk_frozen BK296.out 0; have hfz62_1 := blk_frozen BK296.out 1))
                        go_roundg k2
                        case measure => have := HK1.out; have := HK2.out; omega
                        case rel => exact ⟨(wrap64 (x6_1 + 1)), (x301000_2), (x301001_2), (by first | rfl | (simp; done) | (simp [*]; done)), H', ⟨by have := HK1.out; have := HK2.out; omega⟩, ⟨by (with_reducible repeat (first | refine blk_drewN ?_ _ | refine blk_drew ?_ | refine blk_alloc ?_ _)); refine blk_far ?_ NB295_296.out _; (with_reducible repeat (first | refine blk_drewN ?_ _ | refine blk_drew ?_ | refine blk_alloc ?_ _)); refine blk_far ?_ NB295_296.out _; (with_reducible repeat (first | refine blk_drewN ?_ _ | refine blk_drew ?_ | refine blk_alloc ?_ _)); exact BK295.out⟩, ⟨by (with_reducible repeat (first | refine blk_drewN ?_ _ | refine blk_drew ?_ | refine blk_alloc ?_ _)); refine blk_put (cs := #[.int .i64 x301000_2, .int .i64 x297001_1]) ?_ 1 _ rfl; (with_reducible repeat (first | refine blk_drewN ?_ _ | refine blk_drew ?_ | refine blk_alloc ?_ _)); refine blk_put (cs := #[.int .i64 x297000_1, .int .i64 x297001_1]) ?_ 0 _ rfl; (with_reducible repeat (first | refine blk_drewN ?_ _ | refine blk_drew ?_ | refine blk_alloc ?_ _)); exact BK296.out⟩, ⟨by repeat (first | (with_reducible first | exact HB.out | apply below_alloc | apply pw_below_drewN | apply below_drew1 | refine below_set ?_ GE295.out | refine below_set ?_ GE296.out | refine below_set ?_ GE300.out) | exact HB.out)⟩⟩
                      · replace c54 := Bool.eq_false_iff.mpr c54
                        subst c54
                        have H1 : (dropperref07_between.l0 k2 l0 a1 (wrap64 (x6_1 + 1)) x297000_1 x297001_1) = some (r1, r2) := by rw [if_neg (show ¬ (false = true) by decide)] at H; exact H
                        clear H
                        have H := H1
                        clear H1
                        have H' := Aside0.mk H
                        clear H
                        have hnb63 := NB296_295.out
                        have hnc63 := NB295_296.out
                        have hnb64 := NB296_300.out
                        have hnc64 := NB300_296.out
                        have hcz65_0 : wr.cell? ⟨gb296, 0, none⟩ = some (.int .i64 x297000_1) := (blk_cell BK296.out 0).trans rfl
                        have hcz65_1 : wr.cell? ⟨gb296, 1, none⟩ = some (.int .i64 x297001_1) := (blk_cell BK296.out 1).trans rfl
                        have hfz65_0 := blk_frozen BK296.out 0
                        have hfz65_1 := blk_frozen BK296.out 1
                        have hnb66 := NB300_295.out
                        have hnc66 := NB295_300.out
                        have hcz67_0 : wr.cell? ⟨gb300, 0, none⟩ = some (.int .i64 x301000_2) := (blk_cell BK300.out 0).trans rfl
                        have hcz67_1 : wr.cell? ⟨gb300, 1, none⟩ = some (.int .i64 x301001_2) := (blk_cell BK300.out 1).trans rfl
                        have hfz67_0 := blk_frozen BK300.out 0
                        have hfz67_1 := blk_frozen BK300.out 1
                        go_wp2_with (first | (go_at_call 21; (with_reducible refine (dropperref07_Less.calls x297000_1 x297001_1 x301000_2 x301001_2 false _ A53.out).mono ?_); rintro e w68 ⟨rfl, hb⟩; have n0_ := Aside0.mk (blk_below (g := gb295) (o := .cells #[.int .i64 0, .int .i64 0] 35 (0, 0)) (by (with_reducible repeat (first | refine blk_drewN ?_ _ | refine blk_drew ?_ | refine blk_alloc ?_ _)); exact BK295.out) hb); have n1_ := Aside0.mk (blk_below (g := gb296) (o := .cells #[.int .i64 x297000_1, .int .i64 x297001_1] 35 (0, 0)) (by (with_reducible repeat (first | refine blk_drewN ?_ _ | refine blk_drew ?_ | refine blk_alloc ?_ _)); exact BK296.out) hb); have n2_ := Aside0.mk (blk_below (g := gb300) (o := .cells #[.int .i64 x301000_2, .int .i64 x301001_2] 35 (0, 0)) (by (with_reducible repeat (first | refine blk_drewN ?_ _ | refine blk_drew ?_ | refine blk_alloc ?_ _)); exact BK300.out) hb); have n3_ := Aside0.mk (below_step (by repeat (first | (with_reducible first | exact HB.out | apply below_alloc | apply pw_below_drewN | apply below_drew1 | refine below_set ?_ GE295.out | refine below_set ?_ GE296.out | refine below_set ?_ GE300.out) | exact HB.out)) hb); clear BK295; clear BK296; clear BK300; clear HB; have BK295 := n0_; have BK296 := n1_; have BK300 := n2_; have HB := n3_; clear n0_ n1_ n2_ n3_; (try clear hb); (try clear hb2); (try clear hk); (try clear hi)))
                        go_roundg k2
                        case measure => have := HK1.out; have := HK2.out; omega
                        case rel => exact ⟨(wrap64 (x6_1 + 1)), (x297000_1), (x297001_1), (by first | rfl | (simp; done) | (simp [*]; done)), H', ⟨by have := HK1.out; have := HK2.out; omega⟩, ⟨by (with_reducible repeat (first | refine blk_drewN ?_ _ | refine blk_drew ?_ | refine blk_alloc ?_ _)); exact BK295.out⟩, ⟨by (with_reducible repeat (first | refine blk_drewN ?_ _ | refine blk_drew ?_ | refine blk_alloc ?_ _)); exact BK296.out⟩, ⟨by repeat (first | (with_reducible first | exact HB.out | apply below_alloc | apply pw_below_drewN | apply below_drew1 | refine below_set ?_ GE295.out | refine below_set ?_ GE296.out | refine below_set ?_ GE300.out) | exact HB.out)⟩⟩
            · rw [if_neg c8] at H
              exact absurd H (by simp)
          · rw [if_neg c7] at H
            exact absurd H (by simp)
        · rw [if_neg c6] at H
          exact absurd H (by simp)
      · rw [if_neg c5] at H
        have c5b0 : decide (x6_1 ≤ a1) = false := decide_eq_false c5
        clear c5
        simp only [Option.some.injEq, Prod.mk.injEq] at H
        obtain ⟨rfl, rfl⟩ := H
        have hnb69 := NB296_295.out
        have hnc69 := NB295_296.out
        have hcz70_0 : wr.cell? ⟨gb296, 0, none⟩ = some (.int .i64 x297000_1) := (blk_cell BK296.out 0).trans rfl
        have hcz70_1 : wr.cell? ⟨gb296, 1, none⟩ = some (.int .i64 x297001_1) := (blk_cell BK296.out 1).trans rfl
        have hfz70_0 := blk_frozen BK296.out 0
        have hfz70_1 := blk_frozen BK296.out 1
        have hcz71_0 : wr.cell? ⟨gb295, 0, none⟩ = some (.int .i64 0) := (blk_cell BK295.out 0).trans rfl
        have hcz71_1 : wr.cell? ⟨gb295, 1, none⟩ = some (.int .i64 0) := (blk_cell BK295.out 1).trans rfl
        have hfz71_0 := blk_frozen BK295.out 0
        have hfz71_1 := blk_frozen BK295.out 1
        go_wp2
        refine bodyPost_ret (results_cell_row rfl _ _ gb295 35 #[.int .i64 x297000_1, .int .i64 x297001_1] (0, 0) _ rfl (by (with_reducible repeat (first | refine blk_drewN ?_ _ | refine blk_drew ?_ | refine blk_alloc ?_ _)); refine blk_put (cs := #[.int .i64 x297000_1, .int .i64 0]) ?_ 1 _ rfl; (with_reducible repeat (first | refine blk_drewN ?_ _ | refine blk_drew ?_ | refine blk_alloc ?_ _)); refine blk_put (cs := #[.int .i64 0, .int .i64 0]) ?_ 0 _ rfl; (with_reducible repeat (first | refine blk_drewN ?_ _ | refine blk_drew ?_ | refine blk_alloc ?_ _)); exact BK295.out) Try.underlying35 rfl (by kernel_rfl)) rfl ?_
        exact ⟨by first | rfl | (simp [errW_none, errW_some] <;> rfl) | (simp [*, errW_none, errW_some] <;> rfl), by repeat (first | (with_reducible first | exact HB.out | apply below_alloc | apply pw_below_drewN | apply below_drew1 | refine below_set ?_ GE295.out | refine below_set ?_ GE296.out) | exact HB.out)⟩

end Go.Proofs.Ytpdcpekjafcohaa.XWear

-- Written by wip/xprint.py of this repo, over the kit's print.py: out of the translation; the oracles in it are by hand. Not trusted: Lean checks it.
namespace Go.Proofs.Ytpdcpekjafcohaa.XWear
open Go.RowKit Go.Proofs.YtpdcpekjafcohaaW.PrintWords Go.Proofs.YtpdcpekjafcohaaW.PrintLast Go.Proofs.YtpdcpekjafcohaaW.PrintMore
attribute [local go_sem] max2_int min2_int max_two min_two max_three min_three max_four min_four   -- for this text's walks alone
set_option linter.unusedVariables false
set_option linter.unusedSimpArgs false

/-! ### dropperref07_Between: function 44 -/
def dropperref07_Between.f (k : Nat) (l0 : List Int) (a1 : Int) : Option (Int × Int × Int) := (dropperref07_Valid.f k l0).bind fun t507 => (if t507 = true then (if a1 < 0 then (some (0, 0, 2)) else (if a1 ≥ (l0.length : Int) then (some (0, 0, 2)) else ((dropperref07_between.f k l0 a1).bind fun bt508 => (some (bt508.1, bt508.2, 0))))) else (some (0, 0, 70)))
theorem dropperref07_Between.mono : ∀ a0 a1 k, LeO (dropperref07_Between.f k a0 a1) (dropperref07_Between.f (k + 1) a0 a1) := by
  intro a0 a1 k
  unfold dropperref07_Between.f
  repeat' first
      | (with_reducible exact dropperref07_Valid.mono _ _)
      | (with_reducible exact dropperref07_between.mono _ _ _)
      | (with_reducible exact LeO.refl _)
      | (with_reducible exact LeO.none _)
      | (with_reducible refine LeO.ite ?_ ?_)
      | (with_reducible refine LeO.bind ?_ (fun _ => ?_))
      | exact dropperref07_Valid.mono _ _
      | exact dropperref07_between.mono _ _ _
      | exact LeO.none _
      | refine LeO.ite ?_ ?_
      | refine LeO.bind ?_ (fun _ => ?_)
set_option maxHeartbeats 8000000 in
set_option maxRecDepth 100000 in
theorem dropperref07_Between.calls (k : Nat) (A0 : Option Addr) (c0 : Nat) (l0 : List Int) (a1 : Int) (r1 : Int) (r2 : Int) (r3 : Int) (w : World) (hr0 : Kd.C (Kd.int .i64) w A0 l0.length l0) (hc0 : l0.length ≤ c0) (h : dropperref07_Between.f k l0 a1 = some (r1, r2, r3)) :
    Calls Try.prog 44 #[.slice A0 l0.length c0, .int .i64 a1] w fun e w' => e = .returned (.tuple #[.agg #[.int .i64 r1, .int .i64 r2], .int .i64 r3]) ∧ Below w.heap.size w w' := by
  have hu35 := Try.underlying35
  have HR0 := Aside0.mk hr0
  have HC0 := Aside0.mk hc0
  clear hr0 hc0
  have HB := Aside0.mk (Below.refl w.heap.size w)
  have H : ((dropperref07_Valid.f k l0).bind fun t507 => (if t507 = true then (if a1 < 0 then (some (0, 0, 2)) else (if a1 ≥ (l0.length : Int) then (some (0, 0, 2)) else ((dropperref07_between.f k l0 a1).bind fun bt508 => (some (bt508.1, bt508.2, 0))))) else (some (0, 0, 70)))) = some (r1, r2, r3) := h
  clear h
  replace H := Option.bind_eq_some_iff.mp H
  obtain ⟨t507, A30, H⟩ := H
  replace H : (if t507 = true then (if a1 < 0 then (some (0, 0, 2)) else (if a1 ≥ (l0.length : Int) then (some (0, 0, 2)) else ((dropperref07_between.f k l0 a1).bind fun bt508 => (some (bt508.1, bt508.2, 0))))) else (some (0, 0, 70))) = some (r1, r2, r3) := H
  have A3 := Aside0.mk A30
  clear A30
  by_cases c4 : t507 = true
  · subst c4
    have H1 : (if a1 < 0 then (some (0, 0, 2)) else (if a1 ≥ (l0.length : Int) then (some (0, 0, 2)) else ((dropperref07_between.f k l0 a1).bind fun bt508 => (some (bt508.1, bt508.2, 0))))) = some (r1, r2, r3) := by rw [if_pos rfl] at H; exact H
    clear H
    have H := H1
    clear H1
    by_cases c5 : a1 < 0
    · rw [if_pos c5] at H
      have c5b0 : decide (a1 < 0) = true := decide_eq_true c5
      clear c5
      simp only [Option.some.injEq, Prod.mk.injEq] at H
      obtain ⟨rfl, rfl, rfl⟩ := H
      go_enter Try.func44, Try.ntmps44
      go_wp2_with (first | ((with_reducible refine gate_dst (N := 4) rfl ?_); (try (refine gate_guard (by rfl) ?_; dsimp only)); refine box_event ?hg (N := 4) ?hd (cs := #[.int .i64 0, .int .i64 0]) (t := 35) ?hr ?_; (case hd => rfl); (case hg => rfl); (case hr => first | (go_simp; done) | (go_simp; rfl)); intro gb506 hg w6 hbox hb; have n0_ := Aside0.mk (below_step (by repeat (first | (with_reducible first | exact HB.out | apply below_alloc | apply pw_below_drewN | apply below_drew1) | exact HB.out)) hb); have n1_ := Aside0.mk (hbox); have n2_ := Aside0.mk ((by rw [hg]; exact (below_size (by repeat (first | (with_reducible first | exact HB.out | apply below_alloc | apply pw_below_drewN | apply below_drew1) | exact HB.out))) : w.heap.size ≤ gb506)); have n3_ := Aside0.mk ((by rw [hg]; exact (below_size (by repeat (first | (with_reducible first | exact HB.out | apply below_alloc | apply pw_below_drewN | apply below_drew1) | exact HB.out))) : w.heap.size ≤ gb506)); clear HB; have HB := n0_; have BK506 := n1_; have GW506 := n2_; have GE506 := n3_; clear n0_ n1_ n2_ n3_; clear hb hbox hg) | ((with_reducible refine gate_callee (f := 19) rfl ?_); refine goesL_ (some 8) rfl rfl Try.func19 (by kernel_rfl) rfl #[.slice A0 l0.length c0] rfl (by (try simp only [List.map_toArray, List.map_cons, List.map_nil]); first | done | rfl | (simp only [List.length_drop, List.length_take]; rfl)) ?_; (with_reducible refine (dropperref07_Valid.calls k _ _ l0 true _ ?side1 ?side2 A3.out).mono ?_); (case side1 => repeat (first | exact (Kd.C_below HR0.out HB.out) | (with_reducible refine Kd.C_alloc ?_ _) | (with_reducible refine Kd.C_drewN ?_ _) | (with_reducible refine Kd.C_drew ?_))); (case side2 => exact HC0.out); rintro e w' ⟨rfl, ⟨nd, rfl⟩⟩; refine ⟨_, rfl, ?_⟩; (try (rw [drewN_self w6]; generalize hq_ : World.drewN w6 _ = w6; have n0_ : Aside0 (w6.heap[gb506]? = some (.cells #[.int .i64 0, .int .i64 0] 35 (0, 0))) := ⟨by rw [← hq_]; exact (by (with_reducible repeat (first | refine blk_drewN ?_ _ | refine blk_drew ?_ | refine blk_alloc ?_ _)); exact BK506.out)⟩; have n1_ : Aside0 (Below w.heap.size w w6) := ⟨by rw [← hq_]; exact (by repeat (first | (with_reducible first | exact HB.out | apply below_alloc | apply pw_below_drewN | apply below_drew1 | refine below_set ?_ GE506.out) | exact HB.out))⟩; clear BK506 HB hq_; have BK506 := n0_; have HB := n1_; clear n0_ n1_)); have hcz7_0 : w6.cell? ⟨gb506, 0, none⟩ = some (.int .i64 0) := (blk_cell BK506.out 0).trans rfl; have hcz7_1 : w6.cell? ⟨gb506, 1, none⟩ = some (.int .i64 0) := (blk_cell BK506.out 1).trans rfl; have hfz7_0 := blk_frozen BK506.out 0; have hfz7_1 := blk_frozen BK506.out 1))
      refine bodyPost_ret (results_ct rfl _ _ gb506 35 #[.int .i64 0, .int .i64 0] (0, 0) _ rfl (by (with_reducible repeat (first | refine blk_drewN ?_ _ | refine blk_drew ?_ | refine blk_alloc ?_ _)); refine blk_put (cs := #[.int .i64 0, .int .i64 0]) ?_ 1 _ rfl; (with_reducible repeat (first | refine blk_drewN ?_ _ | refine blk_drew ?_ | refine blk_alloc ?_ _)); refine blk_put (cs := #[.int .i64 0, .int .i64 0]) ?_ 0 _ rfl; (with_reducible repeat (first | refine blk_drewN ?_ _ | refine blk_drew ?_ | refine blk_alloc ?_ _)); exact BK506.out) Try.underlying35 rfl (by kernel_rfl)) rfl ?_
      exact ⟨by first | rfl | (simp [errW_none, errW_some] <;> rfl) | (simp [*, errW_none, errW_some] <;> rfl), by repeat (first | (with_reducible first | exact HB.out | apply below_alloc | apply pw_below_drewN | apply below_drew1 | refine below_set ?_ GE506.out) | exact HB.out)⟩
    · rw [if_neg c5] at H
      have c5b0 : decide (a1 < 0) = false := decide_eq_false c5
      clear c5
      by_cases c8 : a1 ≥ (l0.length : Int)
      · rw [if_pos c8] at H
        have c8b0 : decide ((l0.length : Int) ≤ a1) = true := decide_eq_true c8
        clear c8
        simp only [Option.some.injEq, Prod.mk.injEq] at H
        obtain ⟨rfl, rfl, rfl⟩ := H
        go_enter Try.func44, Try.ntmps44
        go_wp2_with (first | ((with_reducible refine gate_dst (N := 4) rfl ?_); (try (refine gate_guard (by rfl) ?_; dsimp only)); refine box_event ?hg (N := 4) ?hd (cs := #[.int .i64 0, .int .i64 0]) (t := 35) ?hr ?_; (case hd => rfl); (case hg => rfl); (case hr => first | (go_simp; done) | (go_simp; rfl)); intro gb506 hg w9 hbox hb; have n0_ := Aside0.mk (below_step (by repeat (first | (with_reducible first | exact HB.out | apply below_alloc | apply pw_below_drewN | apply below_drew1) | exact HB.out)) hb); have n1_ := Aside0.mk (hbox); have n2_ := Aside0.mk ((by rw [hg]; exact (below_size (by repeat (first | (with_reducible first | exact HB.out | apply below_alloc | apply pw_below_drewN | apply below_drew1) | exact HB.out))) : w.heap.size ≤ gb506)); have n3_ := Aside0.mk ((by rw [hg]; exact (below_size (by repeat (first | (with_reducible first | exact HB.out | apply below_alloc | apply pw_below_drewN | apply below_drew1) | exact HB.out))) : w.heap.size ≤ gb506)); clear HB; have HB := n0_; have BK506 := n1_; have GW506 := n2_; have GE506 := n3_; clear n0_ n1_ n2_ n3_; clear hb hbox hg) | ((with_reducible refine gate_callee (f := 19) rfl ?_); refine goesL_ (some 8) rfl rfl Try.func19 (by kernel_rfl) rfl #[.slice A0 l0.length c0] rfl (by (try simp only [List.map_toArray, List.map_cons, List.map_nil]); first | done | rfl | (simp only [List.length_drop, List.length_take]; rfl)) ?_; (with_reducible refine (dropperref07_Valid.calls k _ _ l0 true _ ?side1 ?side2 A3.out).mono ?_); (case side1 => repeat (first | exact (Kd.C_below HR0.out HB.out) | (with_reducible refine Kd.C_alloc ?_ _) | (with_reducible refine Kd.C_drewN ?_ _) | (with_reducible refine Kd.C_drew ?_))); (case side2 => exact HC0.out); rintro e w' ⟨rfl, ⟨nd, rfl⟩⟩; refine ⟨_, rfl, ?_⟩; (try (rw [drewN_self w9]; generalize hq_ : World.drewN w9 _ = w9; have n0_ : Aside0 (w9.heap[gb506]? = some (.cells #[.int .i64 0, .int .i64 0] 35 (0, 0))) := ⟨by rw [← hq_]; exact (by (with_reducible repeat (first | refine blk_drewN ?_ _ | refine blk_drew ?_ | refine blk_alloc ?_ _)); exact BK506.out)⟩; have n1_ : Aside0 (Below w.heap.size w w9) := ⟨by rw [← hq_]; exact (by repeat (first | (with_reducible first | exact HB.out | apply below_alloc | apply pw_below_drewN | apply below_drew1 | refine below_set ?_ GE506.out) | exact HB.out))⟩; clear BK506 HB hq_; have BK506 := n0_; have HB := n1_; clear n0_ n1_)); have hcz10_0 : w9.cell? ⟨gb506, 0, none⟩ = some (.int .i64 0) := (blk_cell BK506.out 0).trans rfl; have hcz10_1 : w9.cell? ⟨gb506, 1, none⟩ = some (.int .i64 0) := (blk_cell BK506.out 1).trans rfl; have hfz10_0 := blk_frozen BK506.out 0; have hfz10_1 := blk_frozen BK506.out 1))
        refine bodyPost_ret (results_ct rfl _ _ gb506 35 #[.int .i64 0, .int .i64 0] (0, 0) _ rfl (by (with_reducible repeat (first | refine blk_drewN ?_ _ | refine blk_drew ?_ | refine blk_alloc ?_ _)); refine blk_put (cs := #[.int .i64 0, .int .i64 0]) ?_ 1 _ rfl; (with_reducible repeat (first | refine blk_drewN ?_ _ | refine blk_drew ?_ | refine blk_alloc ?_ _)); refine blk_put (cs := #[.int .i64 0, .int .i64 0]) ?_ 0 _ rfl; (with_reducible repeat (first | refine blk_drewN ?_ _ | refine blk_drew ?_ | refine blk_alloc ?_ _)); exact BK506.out) Try.underlying35 rfl (by kernel_rfl)) rfl ?_
        exact ⟨by first | rfl | (simp [errW_none, errW_some] <;> rfl) | (simp [*, errW_none, errW_some] <;> rfl), by repeat (first | (with_reducible first | exact HB.out | apply below_alloc | apply pw_below_drewN | apply below_drew1 | refine below_set ?_ GE506.out) | exact HB.out)⟩
      · rw [if_neg c8] at H
        have c8b0 : decide ((l0.length : Int) ≤ a1) = false := decide_eq_false c8
        clear c8
        replace H := Option.bind_eq_some_iff.mp H
        obtain ⟨⟨t508, t509⟩, A110, H⟩ := H
        replace H : (some (t508, t509, 0)) = some (r1, r2, r3) := H
        have A11 := Aside0.mk A110
        clear A110
        simp only [Option.some.injEq, Prod.mk.injEq] at H
        obtain ⟨rfl, rfl, rfl⟩ := H
        go_enter Try.func44, Try.ntmps44
        go_wp2_with (first | ((with_reducible refine gate_dst (N := 4) rfl ?_); (try (refine gate_guard (by rfl) ?_; dsimp only)); refine box_event ?hg (N := 4) ?hd (cs := #[.int .i64 0, .int .i64 0]) (t := 35) ?hr ?_; (case hd => rfl); (case hg => rfl); (case hr => first | (go_simp; done) | (go_simp; rfl)); intro gb506 hg w12 hbox hb; have n0_ := Aside0.mk (below_step (by repeat (first | (with_reducible first | exact HB.out | apply below_alloc | apply pw_below_drewN | apply below_drew1) | exact HB.out)) hb); have n1_ := Aside0.mk (hbox); have n2_ := Aside0.mk ((by rw [hg]; exact (below_size (by repeat (first | (with_reducible first | exact HB.out | apply below_alloc | apply pw_below_drewN | apply below_drew1) | exact HB.out))) : w.heap.size ≤ gb506)); have n3_ := Aside0.mk ((by rw [hg]; exact (below_size (by repeat (first | (with_reducible first | exact HB.out | apply below_alloc | apply pw_below_drewN | apply below_drew1) | exact HB.out))) : w.heap.size ≤ gb506)); clear HB; have HB := n0_; have BK506 := n1_; have GW506 := n2_; have GE506 := n3_; clear n0_ n1_ n2_ n3_; clear hb hbox hg) | ((with_reducible refine gate_callee (f := 19) rfl ?_); refine goesL_ (some 8) rfl rfl Try.func19 (by kernel_rfl) rfl #[.slice A0 l0.length c0] rfl (by (try simp only [List.map_toArray, List.map_cons, List.map_nil]); first | done | rfl | (simp only [List.length_drop, List.length_take]; rfl)) ?_; (with_reducible refine (dropperref07_Valid.calls k _ _ l0 true _ ?side1 ?side2 A3.out).mono ?_); (case side1 => repeat (first | exact (Kd.C_below HR0.out HB.out) | (with_reducible refine Kd.C_alloc ?_ _) | (with_reducible refine Kd.C_drewN ?_ _) | (with_reducible refine Kd.C_drew ?_))); (case side2 => exact HC0.out); rintro e w' ⟨rfl, ⟨nd, rfl⟩⟩; refine ⟨_, rfl, ?_⟩; (try (rw [drewN_self w12]; generalize hq_ : World.drewN w12 _ = w12; have n0_ : Aside0 (w12.heap[gb506]? = some (.cells #[.int .i64 0, .int .i64 0] 35 (0, 0))) := ⟨by rw [← hq_]; exact (by (with_reducible repeat (first | refine blk_drewN ?_ _ | refine blk_drew ?_ | refine blk_alloc ?_ _)); exact BK506.out)⟩; have n1_ : Aside0 (Below w.heap.size w w12) := ⟨by rw [← hq_]; exact (by repeat (first | (with_reducible first | exact HB.out | apply below_alloc | apply pw_below_drewN | apply below_drew1 | refine below_set ?_ GE506.out) | exact HB.out))⟩; clear BK506 HB hq_; have BK506 := n0_; have HB := n1_; clear n0_ n1_))) | ((with_reducible refine gate_callee (f := 57) rfl ?_); refine goesL_ (some 23) rfl rfl Try.func57 (by kernel_rfl) rfl #[.slice A0 l0.length c0, .int .i64 a1] rfl (by (try simp only [List.map_toArray, List.map_cons, List.map_nil]); first | done | rfl | (simp only [List.length_drop, List.length_take]; rfl)) ?_; (with_reducible refine (dropperref07_between.calls k _ _ l0 a1 t508 t509 _ ?side1 ?side2 A11.out).mono ?_); (case side1 => repeat (first | exact (Kd.C_below HR0.out HB.out) | (with_reducible refine Kd.C_alloc ?_ _) | (with_reducible refine Kd.C_drewN ?_ _) | (with_reducible refine Kd.C_drew ?_))); (case side2 => exact HC0.out); rintro e w13 ⟨rfl, hb⟩; refine ⟨_, rfl, ?_⟩; have n0_ := Aside0.mk (blk_below (g := gb506) (o := .cells #[.int .i64 0, .int .i64 0] 35 (0, 0)) (by (with_reducible repeat (first | refine blk_drewN ?_ _ | refine blk_drew ?_ | refine blk_alloc ?_ _)); exact BK506.out) hb); have n1_ := Aside0.mk (below_step (by repeat (first | (with_reducible first | exact HB.out | apply below_alloc | apply pw_below_drewN | apply below_drew1 | refine below_set ?_ GE506.out) | exact HB.out)) hb); clear BK506; clear HB; have BK506 := n0_; have HB := n1_; clear n0_ n1_; (try clear hb); (try clear hb2); (try clear hk); (try clear hi); have hcz14_0 : w13.cell? ⟨gb506, 0, none⟩ = some (.int .i64 0) := (blk_cell BK506.out 0).trans rfl; have hcz14_1 : w13.cell? ⟨gb506, 1, none⟩ = some (.int .i64 0) := (blk_cell BK506.out 1).trans rfl; have hfz14_0 := blk_frozen BK506.out 0; have hfz14_1 := blk_frozen BK506.out 1))
        refine bodyPost_ret (results_ct rfl _ _ gb506 35 #[.int .i64 t508, .int .i64 t509] (0, 0) _ rfl (by (with_reducible repeat (first | refine blk_drewN ?_ _ | refine blk_drew ?_ | refine blk_alloc ?_ _)); refine blk_put (cs := #[.int .i64 t508, .int .i64 0]) ?_ 1 _ rfl; (with_reducible repeat (first | refine blk_drewN ?_ _ | refine blk_drew ?_ | refine blk_alloc ?_ _)); refine blk_put (cs := #[.int .i64 0, .int .i64 0]) ?_ 0 _ rfl; (with_reducible repeat (first | refine blk_drewN ?_ _ | refine blk_drew ?_ | refine blk_alloc ?_ _)); exact BK506.out) Try.underlying35 rfl (by kernel_rfl)) rfl ?_
        exact ⟨by first | rfl | (simp [errW_none, errW_some] <;> rfl) | (simp [*, errW_none, errW_some] <;> rfl), by repeat (first | (with_reducible first | exact HB.out | apply below_alloc | apply pw_below_drewN | apply below_drew1 | refine below_set ?_ GE506.out) | exact HB.out)⟩
  · replace c4 := Bool.eq_false_iff.mpr c4
    subst c4
    have H1 : (some (0, 0, 70)) = some (r1, r2, r3) := by rw [if_neg (show ¬ (false = true) by decide)] at H; exact H
    clear H
    have H := H1
    clear H1
    simp only [Option.some.injEq, Prod.mk.injEq] at H
    obtain ⟨rfl, rfl, rfl⟩ := H
    go_enter Try.func44, Try.ntmps44
    go_wp2_with (first | ((with_reducible refine gate_dst (N := 4) rfl ?_); (try (refine gate_guard (by rfl) ?_; dsimp only)); refine box_event ?hg (N := 4) ?hd (cs := #[.int .i64 0, .int .i64 0]) (t := 35) ?hr ?_; (case hd => rfl); (case hg => rfl); (case hr => first | (go_simp; done) | (go_simp; rfl)); intro gb506 hg w15 hbox hb; have n0_ := Aside0.mk (below_step (by repeat (first | (with_reducible first | exact HB.out | apply below_alloc | apply pw_below_drewN | apply below_drew1) | exact HB.out)) hb); have n1_ := Aside0.mk (hbox); have n2_ := Aside0.mk ((by rw [hg]; exact (below_size (by repeat (first | (with_reducible first | exact HB.out | apply below_alloc | apply pw_below_drewN | apply below_drew1) | exact HB.out))) : w.heap.size ≤ gb506)); have n3_ := Aside0.mk ((by rw [hg]; exact (below_size (by repeat (first | (with_reducible first | exact HB.out | apply below_alloc | apply pw_below_drewN | apply below_drew1) | exact HB.out))) : w.heap.size ≤ gb506)); clear HB; have HB := n0_; have BK506 := n1_; have GW506 := n2_; have GE506 := n3_; clear n0_ n1_ n2_ n3_; clear hb hbox hg) | ((with_reducible refine gate_callee (f := 19) rfl ?_); refine goesL_ (some 8) rfl rfl Try.func19 (by kernel_rfl) rfl #[.slice A0 l0.length c0] rfl (by (try simp only [List.map_toArray, List.map_cons, List.map_nil]); first | done | rfl | (simp only [List.length_drop, List.length_take]; rfl)) ?_; (with_reducible refine (dropperref07_Valid.calls k _ _ l0 false _ ?side1 ?side2 A3.out).mono ?_); (case side1 => repeat (first | exact (Kd.C_below HR0.out HB.out) | (with_reducible refine Kd.C_alloc ?_ _) | (with_reducible refine Kd.C_drewN ?_ _) | (with_reducible refine Kd.C_drew ?_))); (case side2 => exact HC0.out); rintro e w' ⟨rfl, ⟨nd, rfl⟩⟩; refine ⟨_, rfl, ?_⟩; (try (rw [drewN_self w15]; generalize hq_ : World.drewN w15 _ = w15; have n0_ : Aside0 (w15.heap[gb506]? = some (.cells #[.int .i64 0, .int .i64 0] 35 (0, 0))) := ⟨by rw [← hq_]; exact (by (with_reducible repeat (first | refine blk_drewN ?_ _ | refine blk_drew ?_ | refine blk_alloc ?_ _)); exact BK506.out)⟩; have n1_ : Aside0 (Below w.heap.size w w15) := ⟨by rw [← hq_]; exact (by repeat (first | (with_reducible first | exact HB.out | apply below_alloc | apply pw_below_drewN | apply below_drew1 | refine below_set ?_ GE506.out) | exact HB.out))⟩; clear BK506 HB hq_; have BK506 := n0_; have HB := n1_; clear n0_ n1_)); have hcz16_0 : w15.cell? ⟨gb506, 0, none⟩ = some (.int .i64 0) := (blk_cell BK506.out 0).trans rfl; have hcz16_1 : w15.cell? ⟨gb506, 1, none⟩ = some (.int .i64 0) := (blk_cell BK506.out 1).trans rfl; have hfz16_0 := blk_frozen BK506.out 0; have hfz16_1 := blk_frozen BK506.out 1))
    refine bodyPost_ret (results_ct rfl _ _ gb506 35 #[.int .i64 0, .int .i64 0] (0, 0) _ rfl (by (with_reducible repeat (first | refine blk_drewN ?_ _ | refine blk_drew ?_ | refine blk_alloc ?_ _)); refine blk_put (cs := #[.int .i64 0, .int .i64 0]) ?_ 1 _ rfl; (with_reducible repeat (first | refine blk_drewN ?_ _ | refine blk_drew ?_ | refine blk_alloc ?_ _)); refine blk_put (cs := #[.int .i64 0, .int .i64 0]) ?_ 0 _ rfl; (with_reducible repeat (first | refine blk_drewN ?_ _ | refine blk_drew ?_ | refine blk_alloc ?_ _)); exact BK506.out) Try.underlying35 rfl (by kernel_rfl)) rfl ?_
    exact ⟨by first | rfl | (simp [errW_none, errW_some] <;> rfl) | (simp [*, errW_none, errW_some] <;> rfl), by repeat (first | (with_reducible first | exact HB.out | apply below_alloc | apply pw_below_drewN | apply below_drew1 | refine below_set ?_ GE506.out) | exact HB.out)⟩

end Go.Proofs.Ytpdcpekjafcohaa.XWear

-- Written by wip/xprint.py of this repo, over the kit's print.py: out of the translation; the oracles in it are by hand. Not trusted: Lean checks it.
namespace Go.Proofs.Ytpdcpekjafcohaa.XWear
open Go.RowKit Go.Proofs.YtpdcpekjafcohaaW.PrintWords Go.Proofs.YtpdcpekjafcohaaW.PrintLast Go.Proofs.YtpdcpekjafcohaaW.PrintMore
attribute [local go_sem] max2_int min2_int max_two min_two max_three min_three max_four min_four   -- for this text's walks alone
set_option linter.unusedVariables false
set_option linter.unusedSimpArgs false

/-! ### wear_Falls: function 45 -/
def wear_Falls.l0 : Nat → List Int → Int → Int → Int → Option (Int × Int)
  | 0, _, _, _, _ => none
  | k + 1, x0, x4, x11, x12 => if x12 < x11 then (if 0 ≤ (wrap64 (x12 + 1)) then (if (wrap64 (x12 + 1)) < (x0.length : Int) then (if 0 ≤ x12 then (if x12 < (x0.length : Int) then (if (rd x0 (wrap64 (x12 + 1))) < (rd x0 x12) then (wear_Falls.l0 k x0 (wrap64 (x4 + 1)) x11 (wrap64 (x12 + 1))) else (wear_Falls.l0 k x0 x4 x11 (wrap64 (x12 + 1)))) else (none)) else (none)) else (none)) else (none)) else (some (x4, 0))
def wear_Falls.f (k : Nat) (l0 : List Int) : Option (Int × Int) := (wear_Valid.f l0).bind fun t510 => (if t510 = true then (if 1 ≤ (l0.length : Int) then (wear_Falls.l0 k l0 0 ((l0.drop 1).length : Int) 0) else (none)) else (some (0, 70)))
theorem wear_Falls.mono_l : ∀ k, (∀ y0 y1 y2 y3, LeO (wear_Falls.l0 k y0 y1 y2 y3) (wear_Falls.l0 (k + 1) y0 y1 y2 y3))
  | 0 => fun _ _ _ _ r h => by simp [wear_Falls.l0] at h
  | k + 1 => by
    have ih0 := wear_Falls.mono_l k
    · intro y0 y1 y2 y3
      unfold wear_Falls.l0
      repeat' first
      | (with_reducible exact ih0 _ _ _ _)
      | (with_reducible exact LeO.refl _)
      | (with_reducible exact LeO.none _)
      | (with_reducible refine LeO.ite ?_ ?_)
      | (with_reducible refine LeO.bind ?_ (fun _ => ?_))
      | exact ih0 _ _ _ _
      | exact LeO.none _
      | refine LeO.ite ?_ ?_
      | refine LeO.bind ?_ (fun _ => ?_)
theorem wear_Falls.mono : ∀ a0 k, LeO (wear_Falls.f k a0) (wear_Falls.f (k + 1) a0) := by
  intro a0 k
  have ih0 := wear_Falls.mono_l k
  unfold wear_Falls.f
  repeat' first
      | (with_reducible exact ih0 _ _ _ _)
      | (with_reducible exact LeO.refl _)
      | (with_reducible exact LeO.none _)
      | (with_reducible refine LeO.ite ?_ ?_)
      | (with_reducible refine LeO.bind ?_ (fun _ => ?_))
      | exact ih0 _ _ _ _
      | exact LeO.none _
      | refine LeO.ite ?_ ?_
      | refine LeO.bind ?_ (fun _ => ?_)
set_option maxHeartbeats 8000000 in
set_option maxRecDepth 100000 in
theorem wear_Falls.calls (k : Nat) (A0 : Option Addr) (c0 : Nat) (l0 : List Int) (r1 : Int) (r2 : Int) (w : World) (hr0 : Kd.C (Kd.int .i64) w A0 l0.length l0) (hc0 : l0.length ≤ c0) (h : wear_Falls.f k l0 = some (r1, r2)) :
    Calls Try.prog 45 #[.slice A0 l0.length c0] w fun e w' => e = .returned (.tuple #[.int .i64 r1, .int .i64 r2]) ∧ Drawn0 w w' := by
  have HR0 := Aside0.mk hr0
  have HC0 := Aside0.mk hc0
  clear hr0 hc0
  have H : ((wear_Valid.f l0).bind fun t510 => (if t510 = true then (if 1 ≤ (l0.length : Int) then (wear_Falls.l0 k l0 0 ((l0.drop 1).length : Int) 0) else (none)) else (some (0, 70)))) = some (r1, r2) := h
  clear h
  replace H := Option.bind_eq_some_iff.mp H
  obtain ⟨t510, A20, H⟩ := H
  replace H : (if t510 = true then (if 1 ≤ (l0.length : Int) then (wear_Falls.l0 k l0 0 ((l0.drop 1).length : Int) 0) else (none)) else (some (0, 70))) = some (r1, r2) := H
  have A2 := Aside0.mk A20
  clear A20
  by_cases c3 : t510 = true
  · subst c3
    have H1 : (if 1 ≤ (l0.length : Int) then (wear_Falls.l0 k l0 0 ((l0.drop 1).length : Int) 0) else (none)) = some (r1, r2) := by rw [if_pos rfl] at H; exact H
    clear H
    have H := H1
    clear H1
    by_cases c4 : 1 ≤ (l0.length : Int)
    · rw [if_pos c4] at H
      have c4b0 := eq_true c4
      have c4b1 : decide (1 ≤ (l0.length : Int)) = true := decide_eq_true c4
      clear c4
      have H' := Aside0.mk H
      clear H
      go_enter Try.func45, Try.ntmps45
      go_wp2_with (first | (go_at_call 27; (with_reducible refine (wear_Valid.calls _ _ l0 true _ ?side1 ?side2 A2.out).mono ?_); (case side1 => repeat (first | exact HR0.out | (with_reducible refine Kd.C_alloc ?_ _) | (with_reducible refine Kd.C_drewN ?_ _) | (with_reducible refine Kd.C_drew ?_))); (case side2 => exact HC0.out); rintro e w' ⟨rfl, ⟨nd, rfl⟩⟩; (try first | exact ⟨rfl, _, World.drewN_drewN _ _ _⟩ | exact ⟨rfl, _, Eq.trans (World.drewN_drewN _ _ _) (congrArg (World.drewN _) (Nat.add_assoc _ _ _))⟩); obtain ⟨i05, hi05, _, hsz5, _⟩ := info_parts info3; obtain ⟨A5, hcut5, hA5, hC5⟩ := print_drop_of (P := Try.prog) (Value.int .i64) 0 22 3 .i64 Try.underlying22 hi05 hsz5 A0 c0 l0 1 (by omega) (of_decide_eq_true (by first | (with_reducible assumption) | assumption)) HC0.out; have HR511 := Aside0.mk (Kd.C_of_reads (h1 := fun _ => rfl) (hA5 _ (Kd.reads_of_C HR0.out))); have HC511 := Aside0.mk hC5; clear hA5 hC5 hi05 hsz5))
      repeat (go_quiet (first | (go_at_call 27; (with_reducible refine (wear_Valid.calls _ _ l0 true _ ?side1 ?side2 A2.out).mono ?_); (case side1 => repeat (first | exact HR0.out | (with_reducible refine Kd.C_alloc ?_ _) | (with_reducible refine Kd.C_drewN ?_ _) | (with_reducible refine Kd.C_drew ?_))); (case side2 => exact HC0.out); rintro e w' ⟨rfl, ⟨nd, rfl⟩⟩; (try first | exact ⟨rfl, _, World.drewN_drewN _ _ _⟩ | exact ⟨rfl, _, Eq.trans (World.drewN_drewN _ _ _) (congrArg (World.drewN _) (Nat.add_assoc _ _ _))⟩); obtain ⟨i05, hi05, _, hsz5, _⟩ := info_parts info3; obtain ⟨A5, hcut5, hA5, hC5⟩ := print_drop_of (P := Try.prog) (Value.int .i64) 0 22 3 .i64 Try.underlying22 hi05 hsz5 A0 c0 l0 1 (by omega) (of_decide_eq_true (by first | (with_reducible assumption) | assumption)) HC0.out; have HR511 := Aside0.mk (Kd.C_of_reads (h1 := fun _ => rfl) (hA5 _ (Kd.reads_of_C HR0.out))); have HC511 := Aside0.mk hC5; clear hA5 hC5 hi05 hsz5)); try go_wp2_with (first | (go_at_call 27; (with_reducible refine (wear_Valid.calls _ _ l0 true _ ?side1 ?side2 A2.out).mono ?_); (case side1 => repeat (first | exact HR0.out | (with_reducible refine Kd.C_alloc ?_ _) | (with_reducible refine Kd.C_drewN ?_ _) | (with_reducible refine Kd.C_drew ?_))); (case side2 => exact HC0.out); rintro e w' ⟨rfl, ⟨nd, rfl⟩⟩; (try first | exact ⟨rfl, _, World.drewN_drewN _ _ _⟩ | exact ⟨rfl, _, Eq.trans (World.drewN_drewN _ _ _) (congrArg (World.drewN _) (Nat.add_assoc _ _ _))⟩); obtain ⟨i05, hi05, _, hsz5, _⟩ := info_parts info3; obtain ⟨A5, hcut5, hA5, hC5⟩ := print_drop_of (P := Try.prog) (Value.int .i64) 0 22 3 .i64 Try.underlying22 hi05 hsz5 A0 c0 l0 1 (by omega) (of_decide_eq_true (by first | (with_reducible assumption) | assumption)) HC0.out; have HR511 := Aside0.mk (Kd.C_of_reads (h1 := fun _ => rfl) (hA5 _ (Kd.reads_of_C HR0.out))); have HC511 := Aside0.mk hC5; clear hA5 hC5 hi05 hsz5)))
      go_loopg [4, 12] k (fun kq v4 v12 w' => ∃ (x4_1 : Int) (x12_1 : Int), v4 = .int .i64 x4_1 ∧ v12 = .int .i64 x12_1 ∧ Aside0 (wear_Falls.l0 kq l0 x4_1 ((l0.drop 1).length : Int) x12_1 = some (r1, r2)) ∧ Aside0 (kq ≤ k) ∧ Drawn0 w w')
      case atStart => exact ⟨(0), (0), (by first | rfl | (simp; done) | (simp [*]; done)), (by first | rfl | (simp; done) | (simp [*]; done)), H', ⟨Nat.le_refl _⟩, by repeat (first | exact Drawn0.refl _ | apply Drawn0.step)⟩
      case round =>
        clear H'
        try clear p2
        try clear c3
        try clear c4
        try clear c4b0
        try clear c4b1
        obtain ⟨x4_1, x12_1, rfl, rfl, HA, HK1, ⟨m1, rfl⟩⟩ := hrel
        cases gk with
        | zero => exact absurd HA.out (by simp [wear_Falls.l0])
        | succ k1 =>
          have H := HA.out
          clear HA
          simp only [wear_Falls.l0] at H
          by_cases c6 : x12_1 < ((l0.drop 1).length : Int)
          · rw [if_pos c6] at H
            have c6b0 : decide (x12_1 < ((l0.drop 1).length : Int)) = true := decide_eq_true c6
            have c6b0d : decide (x12_1 < ((l0.length - 1 : Nat) : Int)) = true := by have h_ := c6b0; simp only [List.length_drop] at h_; exact h_
            clear c6
            obtain ⟨ji7, hji7⟩ : ∃ j_ : Int, (wrap64 (x12_1 + 1)) = j_ := ⟨_, rfl⟩
            replace H : (if 0 ≤ (ji7) then (if (ji7) < (l0.length : Int) then (if 0 ≤ x12_1 then (if x12_1 < (l0.length : Int) then (if (rd l0 (ji7)) < (rd l0 x12_1) then (wear_Falls.l0 k1 l0 (wrap64 (x4_1 + 1)) ((l0.drop 1).length : Int) ji7) else (wear_Falls.l0 k1 l0 x4_1 ((l0.drop 1).length : Int) ji7)) else (none)) else (none)) else (none)) else (none)) = some (r1, r2) := by first | (rw [hji7] at H; exact H) | (simp only [hji7] at H ⊢; exact H)
            have hji7w : (IntKind.i64.wrap (x12_1 + 1)) = ji7 := (i64_w _).trans hji7
            by_cases c8 : 0 ≤ (ji7)
            · rw [if_pos c8] at H
              have c8b0 : decide (0 ≤ (ji7)) = true := decide_eq_true c8
              clear c8
              by_cases c9 : (ji7) < (l0.length : Int)
              · rw [if_pos c9] at H
                have c9b0 : decide ((ji7) < (l0.length : Int)) = true := decide_eq_true c9
                clear c9
                by_cases c10 : 0 ≤ x12_1
                · rw [if_pos c10] at H
                  have c10b0 : decide (0 ≤ x12_1) = true := decide_eq_true c10
                  clear c10
                  by_cases c11 : x12_1 < (l0.length : Int)
                  · rw [if_pos c11] at H
                    have c11b0 : decide (x12_1 < (l0.length : Int)) = true := decide_eq_true c11
                    clear c11
                    by_cases c12 : (rd l0 (ji7)) < (rd l0 x12_1)
                    · rw [if_pos c12] at H
                      have c12b0 : decide ((rd l0 (ji7)) < (rd l0 x12_1)) = true := decide_eq_true c12
                      clear c12
                      have H' := Aside0.mk H
                      clear H
                      have p512 : 0 ≤ ((ji7) : Int) := of_decide_eq_true (by first | (with_reducible assumption) | assumption)
                      have q512 : (ji7) < (l0.length : Int) := of_decide_eq_true (by first | (with_reducible assumption) | assumption)
                      obtain ⟨ad512, e512, hx512_0⟩ := Kd.at_int HR0.out (ji7) p512 q512
                      cases e512
                      replace p512 := eq_true p512
                      replace q512 := eq_true q512
                      have p513 : 0 ≤ (x12_1 : Int) := of_decide_eq_true (by first | (with_reducible assumption) | assumption)
                      have q513 : x12_1 < (l0.length : Int) := of_decide_eq_true (by first | (with_reducible assumption) | assumption)
                      obtain ⟨ad513, e513, hx513_0⟩ := Kd.at_int HR0.out x12_1 p513 q513
                      obtain rfl : ad512 = ad513 := (by injection e513)
                      replace p513 := eq_true p513
                      replace q513 := eq_true q513
                      go_wp2
                      repeat (go_quiet (fail); try go_wp2)
                      go_roundg k1
                      case measure => have := HK1.out; omega
                      case rel => exact ⟨(wrap64 (x4_1 + 1)), (ji7), (by first | rfl | (simp; done) | (simp [*]; done)), (by first | rfl | (simp; done) | (simp only [← hji7] <;> (first | rfl | simp)) | (simp [*]; done)), H', ⟨by have := HK1.out; omega⟩, by repeat (first | exact Drawn0.refl _ | apply Drawn0.step)⟩
                    · rw [if_neg c12] at H
                      have c12b0 : decide ((rd l0 (ji7)) < (rd l0 x12_1)) = false := decide_eq_false c12
                      clear c12
                      have H' := Aside0.mk H
                      clear H
                      have p512 : 0 ≤ ((ji7) : Int) := of_decide_eq_true (by first | (with_reducible assumption) | assumption)
                      have q512 : (ji7) < (l0.length : Int) := of_decide_eq_true (by first | (with_reducible assumption) | assumption)
                      obtain ⟨ad512, e512, hx512_0⟩ := Kd.at_int HR0.out (ji7) p512 q512
                      cases e512
                      replace p512 := eq_true p512
                      replace q512 := eq_true q512
                      have p513 : 0 ≤ (x12_1 : Int) := of_decide_eq_true (by first | (with_reducible assumption) | assumption)
                      have q513 : x12_1 < (l0.length : Int) := of_decide_eq_true (by first | (with_reducible assumption) | assumption)
                      obtain ⟨ad513, e513, hx513_0⟩ := Kd.at_int HR0.out x12_1 p513 q513
                      obtain rfl : ad512 = ad513 := (by injection e513)
                      replace p513 := eq_true p513
                      replace q513 := eq_true q513
                      go_wp2
                      repeat (go_quiet (fail); try go_wp2)
                      go_roundg k1
                      case measure => have := HK1.out; omega
                      case rel => exact ⟨(x4_1), (ji7), (by first | rfl | (simp; done) | (simp [*]; done)), (by first | rfl | (simp; done) | (simp only [← hji7] <;> (first | rfl | simp)) | (simp [*]; done)), H', ⟨by have := HK1.out; omega⟩, by repeat (first | exact Drawn0.refl _ | apply Drawn0.step)⟩
                  · rw [if_neg c11] at H
                    exact absurd H (by simp)
                · rw [if_neg c10] at H
                  exact absurd H (by simp)
              · rw [if_neg c9] at H
                exact absurd H (by simp)
            · rw [if_neg c8] at H
              exact absurd H (by simp)
          · rw [if_neg c6] at H
            have c6b0 : decide (x12_1 < ((l0.drop 1).length : Int)) = false := decide_eq_false c6
            have c6b0d : decide (x12_1 < ((l0.length - 1 : Nat) : Int)) = false := by have h_ := c6b0; simp only [List.length_drop] at h_; exact h_
            clear c6
            simp only [Option.some.injEq, Prod.mk.injEq] at H
            obtain ⟨rfl, rfl⟩ := H
            go_wp2
            repeat (go_quiet (fail); try go_wp2)
            go_ret2
            exact ⟨by first | rfl | (simp; done) | (simp [*]; done), by repeat (first | exact Drawn0.refl _ | apply Drawn0.step)⟩
    · rw [if_neg c4] at H
      exact absurd H (by simp)
  · replace c3 := Bool.eq_false_iff.mpr c3
    subst c3
    have H1 : (some (0, 70)) = some (r1, r2) := by rw [if_neg (show ¬ (false = true) by decide)] at H; exact H
    clear H
    have H := H1
    clear H1
    simp only [Option.some.injEq, Prod.mk.injEq] at H
    obtain ⟨rfl, rfl⟩ := H
    go_enter Try.func45, Try.ntmps45
    go_wp2_with (first | (go_at_call 27; (with_reducible refine (wear_Valid.calls _ _ l0 false _ ?side1 ?side2 A2.out).mono ?_); (case side1 => repeat (first | exact HR0.out | (with_reducible refine Kd.C_alloc ?_ _) | (with_reducible refine Kd.C_drewN ?_ _) | (with_reducible refine Kd.C_drew ?_))); (case side2 => exact HC0.out); rintro e w' ⟨rfl, ⟨nd, rfl⟩⟩; (try first | exact ⟨rfl, _, World.drewN_drewN _ _ _⟩ | exact ⟨rfl, _, Eq.trans (World.drewN_drewN _ _ _) (congrArg (World.drewN _) (Nat.add_assoc _ _ _))⟩)))
    repeat (go_quiet (first | (go_at_call 27; (with_reducible refine (wear_Valid.calls _ _ l0 false _ ?side1 ?side2 A2.out).mono ?_); (case side1 => repeat (first | exact HR0.out | (with_reducible refine Kd.C_alloc ?_ _) | (with_reducible refine Kd.C_drewN ?_ _) | (with_reducible refine Kd.C_drew ?_))); (case side2 => exact HC0.out); rintro e w' ⟨rfl, ⟨nd, rfl⟩⟩; (try first | exact ⟨rfl, _, World.drewN_drewN _ _ _⟩ | exact ⟨rfl, _, Eq.trans (World.drewN_drewN _ _ _) (congrArg (World.drewN _) (Nat.add_assoc _ _ _))⟩))); try go_wp2_with (first | (go_at_call 27; (with_reducible refine (wear_Valid.calls _ _ l0 false _ ?side1 ?side2 A2.out).mono ?_); (case side1 => repeat (first | exact HR0.out | (with_reducible refine Kd.C_alloc ?_ _) | (with_reducible refine Kd.C_drewN ?_ _) | (with_reducible refine Kd.C_drew ?_))); (case side2 => exact HC0.out); rintro e w' ⟨rfl, ⟨nd, rfl⟩⟩; (try first | exact ⟨rfl, _, World.drewN_drewN _ _ _⟩ | exact ⟨rfl, _, Eq.trans (World.drewN_drewN _ _ _) (congrArg (World.drewN _) (Nat.add_assoc _ _ _))⟩))))
    go_ret2
    exact ⟨by first | rfl | (simp; done) | (simp [*]; done), by repeat (first | exact Drawn0.refl _ | apply Drawn0.step)⟩

end Go.Proofs.Ytpdcpekjafcohaa.XWear

-- Written by wip/xprint.py of this repo, over the kit's print.py: out of the translation; the oracles in it are by hand. Not trusted: Lean checks it.
namespace Go.Proofs.Ytpdcpekjafcohaa.XWear
open Go.RowKit Go.Proofs.YtpdcpekjafcohaaW.PrintWords Go.Proofs.YtpdcpekjafcohaaW.PrintLast Go.Proofs.YtpdcpekjafcohaaW.PrintMore
attribute [local go_sem] max2_int min2_int max_two min_two max_three min_three max_four min_four   -- for this text's walks alone
set_option linter.unusedVariables false
set_option linter.unusedSimpArgs false

/-! ### dropperref07_Falls: function 46 -/
def dropperref07_Falls.l0 : Nat → List Int → Int → Int → Option (Int × Int)
  | 0, _, _, _ => none
  | k + 1, x0, x4, x5 => if x5 < (x0.length : Int) then (if 0 ≤ x5 then (if 0 ≤ (wrap64 (x5 - 1)) then (if (wrap64 (x5 - 1)) < (x0.length : Int) then (if (rd x0 x5) < (rd x0 (wrap64 (x5 - 1))) then (dropperref07_Falls.l0 k x0 (wrap64 (x4 + 1)) (wrap64 (x5 + 1))) else (dropperref07_Falls.l0 k x0 x4 (wrap64 (x5 + 1)))) else (none)) else (none)) else (none)) else (some (x4, 0))
def dropperref07_Falls.f (k : Nat) (l0 : List Int) : Option (Int × Int) := (dropperref07_Valid.f k l0).bind fun t514 => (if t514 = true then (dropperref07_Falls.l0 k l0 0 1) else (some (0, 70)))
theorem dropperref07_Falls.mono_l : ∀ k, (∀ y0 y1 y2, LeO (dropperref07_Falls.l0 k y0 y1 y2) (dropperref07_Falls.l0 (k + 1) y0 y1 y2))
  | 0 => fun _ _ _ r h => by simp [dropperref07_Falls.l0] at h
  | k + 1 => by
    have ih0 := dropperref07_Falls.mono_l k
    · intro y0 y1 y2
      unfold dropperref07_Falls.l0
      repeat' first
      | (with_reducible exact ih0 _ _ _)
      | (with_reducible exact dropperref07_Valid.mono _ _)
      | (with_reducible exact LeO.refl _)
      | (with_reducible exact LeO.none _)
      | (with_reducible refine LeO.ite ?_ ?_)
      | (with_reducible refine LeO.bind ?_ (fun _ => ?_))
      | exact ih0 _ _ _
      | exact dropperref07_Valid.mono _ _
      | exact LeO.none _
      | refine LeO.ite ?_ ?_
      | refine LeO.bind ?_ (fun _ => ?_)
theorem dropperref07_Falls.mono : ∀ a0 k, LeO (dropperref07_Falls.f k a0) (dropperref07_Falls.f (k + 1) a0) := by
  intro a0 k
  have ih0 := dropperref07_Falls.mono_l k
  unfold dropperref07_Falls.f
  repeat' first
      | (with_reducible exact ih0 _ _ _)
      | (with_reducible exact dropperref07_Valid.mono _ _)
      | (with_reducible exact LeO.refl _)
      | (with_reducible exact LeO.none _)
      | (with_reducible refine LeO.ite ?_ ?_)
      | (with_reducible refine LeO.bind ?_ (fun _ => ?_))
      | exact ih0 _ _ _
      | exact dropperref07_Valid.mono _ _
      | exact LeO.none _
      | refine LeO.ite ?_ ?_
      | refine LeO.bind ?_ (fun _ => ?_)
set_option maxHeartbeats 8000000 in
set_option maxRecDepth 100000 in
theorem dropperref07_Falls.calls (k : Nat) (A0 : Option Addr) (c0 : Nat) (l0 : List Int) (r1 : Int) (r2 : Int) (w : World) (hr0 : Kd.C (Kd.int .i64) w A0 l0.length l0) (hc0 : l0.length ≤ c0) (h : dropperref07_Falls.f k l0 = some (r1, r2)) :
    Calls Try.prog 46 #[.slice A0 l0.length c0] w fun e w' => e = .returned (.tuple #[.int .i64 r1, .int .i64 r2]) ∧ Drawn0 w w' := by
  have HR0 := Aside0.mk hr0
  have HC0 := Aside0.mk hc0
  clear hr0 hc0
  have H : ((dropperref07_Valid.f k l0).bind fun t514 => (if t514 = true then (dropperref07_Falls.l0 k l0 0 1) else (some (0, 70)))) = some (r1, r2) := h
  clear h
  replace H := Option.bind_eq_some_iff.mp H
  obtain ⟨t514, A20, H⟩ := H
  replace H : (if t514 = true then (dropperref07_Falls.l0 k l0 0 1) else (some (0, 70))) = some (r1, r2) := H
  have A2 := Aside0.mk A20
  clear A20
  by_cases c3 : t514 = true
  · subst c3
    have H1 : (dropperref07_Falls.l0 k l0 0 1) = some (r1, r2) := by rw [if_pos rfl] at H; exact H
    clear H
    have H := H1
    clear H1
    have H' := Aside0.mk H
    clear H
    go_enter Try.func46, Try.ntmps46
    go_wp2_with (first | (go_at_call 19; (with_reducible refine (dropperref07_Valid.calls k _ _ l0 true _ ?side1 ?side2 A2.out).mono ?_); (case side1 => repeat (first | exact HR0.out | (with_reducible refine Kd.C_alloc ?_ _) | (with_reducible refine Kd.C_drewN ?_ _) | (with_reducible refine Kd.C_drew ?_))); (case side2 => exact HC0.out); rintro e w' ⟨rfl, ⟨nd, rfl⟩⟩; (try first | exact ⟨rfl, _, World.drewN_drewN _ _ _⟩ | exact ⟨rfl, _, Eq.trans (World.drewN_drewN _ _ _) (congrArg (World.drewN _) (Nat.add_assoc _ _ _))⟩)))
    repeat (go_quiet (first | (go_at_call 19; (with_reducible refine (dropperref07_Valid.calls k _ _ l0 true _ ?side1 ?side2 A2.out).mono ?_); (case side1 => repeat (first | exact HR0.out | (with_reducible refine Kd.C_alloc ?_ _) | (with_reducible refine Kd.C_drewN ?_ _) | (with_reducible refine Kd.C_drew ?_))); (case side2 => exact HC0.out); rintro e w' ⟨rfl, ⟨nd, rfl⟩⟩; (try first | exact ⟨rfl, _, World.drewN_drewN _ _ _⟩ | exact ⟨rfl, _, Eq.trans (World.drewN_drewN _ _ _) (congrArg (World.drewN _) (Nat.add_assoc _ _ _))⟩))); try go_wp2_with (first | (go_at_call 19; (with_reducible refine (dropperref07_Valid.calls k _ _ l0 true _ ?side1 ?side2 A2.out).mono ?_); (case side1 => repeat (first | exact HR0.out | (with_reducible refine Kd.C_alloc ?_ _) | (with_reducible refine Kd.C_drewN ?_ _) | (with_reducible refine Kd.C_drew ?_))); (case side2 => exact HC0.out); rintro e w' ⟨rfl, ⟨nd, rfl⟩⟩; (try first | exact ⟨rfl, _, World.drewN_drewN _ _ _⟩ | exact ⟨rfl, _, Eq.trans (World.drewN_drewN _ _ _) (congrArg (World.drewN _) (Nat.add_assoc _ _ _))⟩))))
    go_loopg [4, 5] k (fun kq v4 v5 w' => ∃ (x4_1 : Int) (x5_1 : Int), v4 = .int .i64 x4_1 ∧ v5 = .int .i64 x5_1 ∧ Aside0 (dropperref07_Falls.l0 kq l0 x4_1 x5_1 = some (r1, r2)) ∧ Aside0 (kq ≤ k) ∧ Drawn0 w w')
    case atStart => exact ⟨(0), (1), (by first | rfl | (simp; done) | (simp [*]; done)), (by first | rfl | (simp; done) | (simp [*]; done)), H', ⟨Nat.le_refl _⟩, by repeat (first | exact Drawn0.refl _ | apply Drawn0.step)⟩
    case round =>
      clear H'
      try clear p2
      try clear c3
      obtain ⟨x4_1, x5_1, rfl, rfl, HA, HK1, ⟨m1, rfl⟩⟩ := hrel
      cases gk with
      | zero => exact absurd HA.out (by simp [dropperref07_Falls.l0])
      | succ k1 =>
        have H := HA.out
        clear HA
        simp only [dropperref07_Falls.l0] at H
        by_cases c4 : x5_1 < (l0.length : Int)
        · rw [if_pos c4] at H
          have c4b0 : decide (x5_1 < (l0.length : Int)) = true := decide_eq_true c4
          clear c4
          by_cases c5 : 0 ≤ x5_1
          · rw [if_pos c5] at H
            have c5b0 : decide (0 ≤ x5_1) = true := decide_eq_true c5
            clear c5
            obtain ⟨ji6, hji6⟩ : ∃ j_ : Int, (wrap64 (x5_1 - 1)) = j_ := ⟨_, rfl⟩
            replace H : (if 0 ≤ (ji6) then (if (ji6) < (l0.length : Int) then (if (rd l0 x5_1) < (rd l0 (ji6)) then (dropperref07_Falls.l0 k1 l0 (wrap64 (x4_1 + 1)) (wrap64 (x5_1 + 1))) else (dropperref07_Falls.l0 k1 l0 x4_1 (wrap64 (x5_1 + 1)))) else (none)) else (none)) = some (r1, r2) := by first | (rw [hji6] at H; exact H) | (simp only [hji6] at H ⊢; exact H)
            have hji6w : (IntKind.i64.wrap (x5_1 - 1)) = ji6 := (i64_w _).trans hji6
            by_cases c7 : 0 ≤ (ji6)
            · rw [if_pos c7] at H
              have c7b0 : decide (0 ≤ (ji6)) = true := decide_eq_true c7
              clear c7
              by_cases c8 : (ji6) < (l0.length : Int)
              · rw [if_pos c8] at H
                have c8b0 : decide ((ji6) < (l0.length : Int)) = true := decide_eq_true c8
                clear c8
                by_cases c9 : (rd l0 x5_1) < (rd l0 (ji6))
                · rw [if_pos c9] at H
                  have c9b0 : decide ((rd l0 x5_1) < (rd l0 (ji6))) = true := decide_eq_true c9
                  clear c9
                  have H' := Aside0.mk H
                  clear H
                  have p515 : 0 ≤ (x5_1 : Int) := of_decide_eq_true (by first | (with_reducible assumption) | assumption)
                  have q515 : x5_1 < (l0.length : Int) := of_decide_eq_true (by first | (with_reducible assumption) | assumption)
                  obtain ⟨ad515, e515, hx515_0⟩ := Kd.at_int HR0.out x5_1 p515 q515
                  cases e515
                  replace p515 := eq_true p515
                  replace q515 := eq_true q515
                  have p516 : 0 ≤ ((ji6) : Int) := of_decide_eq_true (by first | (with_reducible assumption) | assumption)
                  have q516 : (ji6) < (l0.length : Int) := of_decide_eq_true (by first | (with_reducible assumption) | assumption)
                  obtain ⟨ad516, e516, hx516_0⟩ := Kd.at_int HR0.out (ji6) p516 q516
                  obtain rfl : ad515 = ad516 := (by injection e516)
                  replace p516 := eq_true p516
                  replace q516 := eq_true q516
                  go_wp2
                  repeat (go_quiet (fail); try go_wp2)
                  go_roundg k1
                  case measure => have := HK1.out; omega
                  case rel => exact ⟨(wrap64 (x4_1 + 1)), (wrap64 (x5_1 + 1)), (by first | rfl | (simp; done) | (simp [*]; done)), (by first | rfl | (simp; done) | (simp [*]; done)), H', ⟨by have := HK1.out; omega⟩, by repeat (first | exact Drawn0.refl _ | apply Drawn0.step)⟩
                · rw [if_neg c9] at H
                  have c9b0 : decide ((rd l0 x5_1) < (rd l0 (ji6))) = false := decide_eq_false c9
                  clear c9
                  have H' := Aside0.mk H
                  clear H
                  have p515 : 0 ≤ (x5_1 : Int) := of_decide_eq_true (by first | (with_reducible assumption) | assumption)
                  have q515 : x5_1 < (l0.length : Int) := of_decide_eq_true (by first | (with_reducible assumption) | assumption)
                  obtain ⟨ad515, e515, hx515_0⟩ := Kd.at_int HR0.out x5_1 p515 q515
                  cases e515
                  replace p515 := eq_true p515
                  replace q515 := eq_true q515
                  have p516 : 0 ≤ ((ji6) : Int) := of_decide_eq_true (by first | (with_reducible assumption) | assumption)
                  have q516 : (ji6) < (l0.length : Int) := of_decide_eq_true (by first | (with_reducible assumption) | assumption)
                  obtain ⟨ad516, e516, hx516_0⟩ := Kd.at_int HR0.out (ji6) p516 q516
                  obtain rfl : ad515 = ad516 := (by injection e516)
                  replace p516 := eq_true p516
                  replace q516 := eq_true q516
                  go_wp2
                  repeat (go_quiet (fail); try go_wp2)
                  go_roundg k1
                  case measure => have := HK1.out; omega
                  case rel => exact ⟨(x4_1), (wrap64 (x5_1 + 1)), (by first | rfl | (simp; done) | (simp [*]; done)), (by first | rfl | (simp; done) | (simp [*]; done)), H', ⟨by have := HK1.out; omega⟩, by repeat (first | exact Drawn0.refl _ | apply Drawn0.step)⟩
              · rw [if_neg c8] at H
                exact absurd H (by simp)
            · rw [if_neg c7] at H
              exact absurd H (by simp)
          · rw [if_neg c5] at H
            exact absurd H (by simp)
        · rw [if_neg c4] at H
          have c4b0 : decide (x5_1 < (l0.length : Int)) = false := decide_eq_false c4
          clear c4
          simp only [Option.some.injEq, Prod.mk.injEq] at H
          obtain ⟨rfl, rfl⟩ := H
          go_wp2
          repeat (go_quiet (fail); try go_wp2)
          go_ret2
          exact ⟨by first | rfl | (simp; done) | (simp [*]; done), by repeat (first | exact Drawn0.refl _ | apply Drawn0.step)⟩
  · replace c3 := Bool.eq_false_iff.mpr c3
    subst c3
    have H1 : (some (0, 70)) = some (r1, r2) := by rw [if_neg (show ¬ (false = true) by decide)] at H; exact H
    clear H
    have H := H1
    clear H1
    simp only [Option.some.injEq, Prod.mk.injEq] at H
    obtain ⟨rfl, rfl⟩ := H
    go_enter Try.func46, Try.ntmps46
    go_wp2_with (first | (go_at_call 19; (with_reducible refine (dropperref07_Valid.calls k _ _ l0 false _ ?side1 ?side2 A2.out).mono ?_); (case side1 => repeat (first | exact HR0.out | (with_reducible refine Kd.C_alloc ?_ _) | (with_reducible refine Kd.C_drewN ?_ _) | (with_reducible refine Kd.C_drew ?_))); (case side2 => exact HC0.out); rintro e w' ⟨rfl, ⟨nd, rfl⟩⟩; (try first | exact ⟨rfl, _, World.drewN_drewN _ _ _⟩ | exact ⟨rfl, _, Eq.trans (World.drewN_drewN _ _ _) (congrArg (World.drewN _) (Nat.add_assoc _ _ _))⟩)))
    repeat (go_quiet (first | (go_at_call 19; (with_reducible refine (dropperref07_Valid.calls k _ _ l0 false _ ?side1 ?side2 A2.out).mono ?_); (case side1 => repeat (first | exact HR0.out | (with_reducible refine Kd.C_alloc ?_ _) | (with_reducible refine Kd.C_drewN ?_ _) | (with_reducible refine Kd.C_drew ?_))); (case side2 => exact HC0.out); rintro e w' ⟨rfl, ⟨nd, rfl⟩⟩; (try first | exact ⟨rfl, _, World.drewN_drewN _ _ _⟩ | exact ⟨rfl, _, Eq.trans (World.drewN_drewN _ _ _) (congrArg (World.drewN _) (Nat.add_assoc _ _ _))⟩))); try go_wp2_with (first | (go_at_call 19; (with_reducible refine (dropperref07_Valid.calls k _ _ l0 false _ ?side1 ?side2 A2.out).mono ?_); (case side1 => repeat (first | exact HR0.out | (with_reducible refine Kd.C_alloc ?_ _) | (with_reducible refine Kd.C_drewN ?_ _) | (with_reducible refine Kd.C_drew ?_))); (case side2 => exact HC0.out); rintro e w' ⟨rfl, ⟨nd, rfl⟩⟩; (try first | exact ⟨rfl, _, World.drewN_drewN _ _ _⟩ | exact ⟨rfl, _, Eq.trans (World.drewN_drewN _ _ _) (congrArg (World.drewN _) (Nat.add_assoc _ _ _))⟩))))
    go_ret2
    exact ⟨by first | rfl | (simp; done) | (simp [*]; done), by repeat (first | exact Drawn0.refl _ | apply Drawn0.step)⟩

end Go.Proofs.Ytpdcpekjafcohaa.XWear
