-- Written by wip/pack.py of this repo: texts of this claim, put together.
import Derived.Test.YtgdfakmlpdeabaaRows
import Derived.WalkKit
import Derived.ProofKit
import Derived.OpenShut
import Derived.ShutString
import Derived.ChangeOld
import Derived.Below
import Derived.SizedLaws
import Derived.Test.YtgdfakmlpdeabaaKKeyg
namespace Go.Proofs.Ytgdfakmlpdeabaa.XKey
open Go.RowKit Go.Proofs.YtgdfakmlpdeabaaW.PrintWords Go.Proofs.YtgdfakmlpdeabaaW.PrintLast Go.Proofs.YtgdfakmlpdeabaaW.PrintMore
attribute [local go_sem] max2_int min2_int max_two min_two max_three min_three max_four min_four   -- for this text's walks alone
set_option linter.unusedVariables false
set_option linter.unusedSimpArgs false
/-! ### dropperlaw06_KeyBack: function 9 -/
mutual
def dropperlaw06_KeyBack.j0 : Nat → List Int → List Int → Bool → Int → List (S64) → Option (Bool)
 | 0, _, _, _, _, _ => none
 | k + 1, x1, x2, x28, x576000, x576001 => if x28 = true then ((dropperlaw06_Awake.f k).bind fun t578 => (some t578)) else ((key_After.f k x576000 x576001 x1 x2).bind fun bt579 => (if bt579.2 = 0 then ((key_Turned.f k x576000 x576001).bind fun bt585 => (dropperlaw06_KeyBack.l0 k x1 x2 bt579.1 bt585.2.2 ([] : List Int) (wrap64 ((x2.length : Int) - 1)) bt585.1 bt585.2.1)) else (if bt579.2 = 2 then ((dropperlaw06_Awake.f k).bind fun t583 => (some t583)) else (if bt579.2 = 5 then ((dropperlaw06_Awake.f k).bind fun t584 => (some t584)) else (none)))))
def dropperlaw06_KeyBack.l0 : Nat → List Int → List Int → List Int → Int → List Int → Int → Int → List (S64) → Option (Bool)
 | 0, _, _, _, _, _, _, _, _ => none
 | k + 1, x1, x2, x7, x10, x11, x12, x591000, x591001 => if x12 ≥ 0 then (if 0 ≤ x12 then (if x12 < (x2.length : Int) then (if x11.length < 17592186044416 then (dropperlaw06_KeyBack.l0 k x1 x2 x7 x10 (x11 ++ [rd x2 x12]) (wrap64 (x12 - 1)) x591000 x591001) else (none)) else (none)) else (none)) else ((key_After.f k x591000 x591001 x7 x11).bind fun bt595 => (if x10 = 0 then (if bt595.2 = 0 then ((dropperlaw06_SameInts.f k bt595.1 x1).bind fun t599 => (if t599 = true then ((dropperlaw06_Awake.f k).bind fun t600 => (some t600)) else (none))) else (none)) else (none)))
end
def dropperlaw06_KeyBack.f (k : Nat) (a0_0 : Int) (l0_1 : List (S64)) (l1 : List Int) (l2 : List Int) : Option (Bool) := (dropperref06_Valid.f k a0_0 l0_1).bind fun t576 => (if t576 = true then ((dropperref06_Keys.f k a0_0 l0_1 l1).bind fun t577 => (if t577 = true then (dropperlaw06_KeyBack.j0 k l1 l2 (decide ((l2.length : Int) > 200)) a0_0 l0_1) else (dropperlaw06_KeyBack.j0 k l1 l2 true a0_0 l0_1))) else (dropperlaw06_KeyBack.j0 k l1 l2 true a0_0 l0_1))
set_option maxHeartbeats 8000000 in
set_option maxRecDepth 100000 in
theorem dropperlaw06_KeyBack.calls (k : Nat) (a0_0 : Int) (A0_1 : Option Addr) (c0_1 : Nat) (l0_1 : List (S64)) (A1 : Option Addr) (c1 : Nat) (l1 : List Int) (A2 : Option Addr) (c2 : Nat) (l2 : List Int) (r : Bool) (w : World) (hr0_1 : Kd.C k64 w A0_1 l0_1.length l0_1) (hc0_1 : l0_1.length ≤ c0_1) (hr1 : Kd.C (Kd.int .i64) w A1 l1.length l1) (hc1 : l1.length ≤ c1) (hr2 : Kd.C (Kd.int .i64) w A2 l2.length l2) (hc2 : l2.length ≤ c2) (h : dropperlaw06_KeyBack.f k a0_0 l0_1 l1 l2 = some r) :
  Calls Try.prog 9 #[.agg #[.int .i64 a0_0, .slice A0_1 l0_1.length c0_1], .slice A1 l1.length c1, .slice A2 l2.length c2] w fun e w' => e = .returned (.bool r) ∧ Below w.heap.size w w' := by
 have hu24 := Try.underlying24
 have HR0_1 := Aside0.mk hr0_1
 have HC0_1 := Aside0.mk hc0_1
 clear hr0_1 hc0_1
 have HR1 := Aside0.mk hr1
 have HC1 := Aside0.mk hc1
 clear hr1 hc1
 have HR2 := Aside0.mk hr2
 have HC2 := Aside0.mk hc2
 clear hr2 hc2
 have HB := Aside0.mk (Below.refl w.heap.size w)
 have H : ((dropperref06_Valid.f k a0_0 l0_1).bind fun t576 => (if t576 = true then ((dropperref06_Keys.f k a0_0 l0_1 l1).bind fun t577 => (if t577 = true then (dropperlaw06_KeyBack.j0 k l1 l2 (decide ((l2.length : Int) > 200)) a0_0 l0_1) else (dropperlaw06_KeyBack.j0 k l1 l2 true a0_0 l0_1))) else (dropperlaw06_KeyBack.j0 k l1 l2 true a0_0 l0_1))) = some r := h
 clear h
 have HC4 := Aside0.mk H
 clear H
 go_enter Try.func9, Try.ntmps9
 go_upto_region 1 with (first | ((with_reducible refine gate_dst (N := 3) rfl ?_); (try (refine gate_guard (by rfl) ?_; dsimp only)); refine box_event ?hg (N := 3) ?hd (cs := #[.int .i64 a0_0, .slice A0_1 l0_1.length c0_1]) (t := 24) ?hr ?_; (case hd => rfl); (case hg => rfl); (case hr => first | (go_simp; done) | (go_simp; rfl)); intro gb575 hg w5 hbox hb; have BK575 := Aside0.mk (hbox); have GW575 := bsz (w := w) hg; have GE575 := GW575; replace HB := Aside0.mk (below_step bel hb); clear hb hbox hg))
 (try simp only [Act.put, List.setIfInBounds_toArray, List.set_cons_zero, List.set_cons_succ])
 go_cut [28] (fun v28 wc => ∃ (kq : Nat) (x28_3 : Bool), v28 = .bool x28_3 ∧ Aside0 (dropperlaw06_KeyBack.j0 kq l1 l2 x28_3 a0_0 l0_1 = some r) ∧ Aside0 (kq ≤ k) ∧ Aside0 (wc.heap[gb575]? = some (.cells #[.int .i64 a0_0, (.slice A0_1 l0_1.length c0_1)] 24 (0, 0))) ∧ Aside0 (Below w.heap.size w wc))
 case first =>
  have H := HC4.out
  clear HC4
  replace H := Option.bind_eq_some_iff.mp H
  obtain ⟨t576, A60, H⟩ := H
  try dsimp only at H
  have A6 := Aside0.mk A60
  clear A60
  by_cases c7 : t576 = true
  ·
   subst c7
   rw [if_pos rfl] at H
   replace H := Option.bind_eq_some_iff.mp H
   obtain ⟨t577, A80, H⟩ := H
   try dsimp only at H
   have A8 := Aside0.mk A80
   clear A80
   by_cases c9 : t577 = true
   ·
    subst c9
    rw [if_pos rfl] at H
    have H' := Aside0.mk H
    clear H
    obtain ⟨hcz10_0, hcz10_1⟩ := bc2 BK575.out
    obtain ⟨hfz10_0, hfz10_1⟩ := bf2 BK575.out
    go_wp2_with (first | ((with_reducible refine gate_callee (f := 12) rfl ?_); refine goesL_ (some 16) rfl rfl Try.func12 (by kernel_rfl) rfl #[.agg #[.int .i64 a0_0, .slice A0_1 l0_1.length c0_1]] rfl mapz ?_; (with_reducible refine (dropperref06_Valid.calls k a0_0 _ _ l0_1 true _ (cbz HR0_1) HC0_1.out A6.out).mono ?_); rintro e w11 ⟨rfl, hb⟩; refine ⟨_, rfl, ?_⟩; replace BK575 := Aside0.mk (blk_below (g := gb575) blkz hb); replace HB := Aside0.mk (below_step bel hb); clear hb; obtain ⟨hcz12_0, hcz12_1⟩ := bc2 BK575.out) | (go_at_call 13; (with_reducible refine (dropperref06_Keys.calls k a0_0 _ _ l0_1 _ _ l1 true _ (cbz HR0_1) HC0_1.out (cbz HR1) HC1.out A8.out).mono ?_); rintro e w13 ⟨rfl, hb⟩; replace BK575 := Aside0.mk (blk_below (g := gb575) blkz hb); replace HB := Aside0.mk (below_step bel hb); clear hb))
    go_meet
    case rel => exact ⟨_, (decide ((l2.length : Int) > 200)), rsz, H', ⟨by first | omega | exact Nat.le_refl _⟩, ⟨blkz⟩, ⟨bel⟩⟩
   ·
    replace c9 := Bool.eq_false_iff.mpr c9
    subst c9
    rw [if_neg (show ¬ (false = true) by decide)] at H
    have H' := Aside0.mk H
    clear H
    obtain ⟨hcz14_0, hcz14_1⟩ := bc2 BK575.out
    obtain ⟨hfz14_0, hfz14_1⟩ := bf2 BK575.out
    go_wp2_with (first | ((with_reducible refine gate_callee (f := 12) rfl ?_); refine goesL_ (some 16) rfl rfl Try.func12 (by kernel_rfl) rfl #[.agg #[.int .i64 a0_0, .slice A0_1 l0_1.length c0_1]] rfl mapz ?_; (with_reducible refine (dropperref06_Valid.calls k a0_0 _ _ l0_1 true _ (cbz HR0_1) HC0_1.out A6.out).mono ?_); rintro e w15 ⟨rfl, hb⟩; refine ⟨_, rfl, ?_⟩; replace BK575 := Aside0.mk (blk_below (g := gb575) blkz hb); replace HB := Aside0.mk (below_step bel hb); clear hb; obtain ⟨hcz16_0, hcz16_1⟩ := bc2 BK575.out) | (go_at_call 13; (with_reducible refine (dropperref06_Keys.calls k a0_0 _ _ l0_1 _ _ l1 false _ (cbz HR0_1) HC0_1.out (cbz HR1) HC1.out A8.out).mono ?_); rintro e w17 ⟨rfl, hb⟩; replace BK575 := Aside0.mk (blk_below (g := gb575) blkz hb); replace HB := Aside0.mk (below_step bel hb); clear hb))
    go_meet
    case rel => exact ⟨_, (true), rsz, H', ⟨by first | omega | exact Nat.le_refl _⟩, ⟨blkz⟩, ⟨bel⟩⟩
  ·
   replace c7 := Bool.eq_false_iff.mpr c7
   subst c7
   rw [if_neg (show ¬ (false = true) by decide)] at H
   have H' := Aside0.mk H
   clear H
   obtain ⟨hcz18_0, hcz18_1⟩ := bc2 BK575.out
   obtain ⟨hfz18_0, hfz18_1⟩ := bf2 BK575.out
   go_wp2_with (first | ((with_reducible refine gate_callee (f := 12) rfl ?_); refine goesL_ (some 16) rfl rfl Try.func12 (by kernel_rfl) rfl #[.agg #[.int .i64 a0_0, .slice A0_1 l0_1.length c0_1]] rfl mapz ?_; (with_reducible refine (dropperref06_Valid.calls k a0_0 _ _ l0_1 false _ (cbz HR0_1) HC0_1.out A6.out).mono ?_); rintro e w19 ⟨rfl, hb⟩; refine ⟨_, rfl, ?_⟩; replace BK575 := Aside0.mk (blk_below (g := gb575) blkz hb); replace HB := Aside0.mk (below_step bel hb); clear hb))
   go_meet
   case rel => exact ⟨_, (true), rsz, H', ⟨by first | omega | exact Nat.le_refl _⟩, ⟨blkz⟩, ⟨bel⟩⟩
 case rest =>
  clear HC4
  (try clear c1); (try clear c2); (try clear p2); (try clear c7); (try clear c9); (try clear c12); (try clear hcz10_0); (try clear hcz10_1); (try clear hcz12_0); (try clear hcz12_1); (try clear hcz14_0); (try clear hcz14_1); (try clear hcz16_0); (try clear hcz16_1); (try clear hcz18_0); (try clear hcz18_1); (try clear hfz10_0); (try clear hfz10_1); (try clear hfz12_0); (try clear hfz12_1); (try clear hfz14_0); (try clear hfz14_1); (try clear hfz16_0); (try clear hfz16_1); (try clear hfz18_0); (try clear hfz18_1)
  obtain ⟨kq, x28_3, rfl, HA, HJ3, BK575, HB⟩ := hcut
  cases kq with
  | zero => exact absurd HA.out (by simp [dropperlaw06_KeyBack.j0])
  | succ kj3 =>
   have H := HA.out
   clear HA
   simp only [dropperlaw06_KeyBack.j0] at H
   by_cases c20 : x28_3 = true
   ·
    subst c20
    rw [if_pos rfl] at H
    replace H := Option.bind_eq_some_iff.mp H
    obtain ⟨t578, A210, H⟩ := H
    try dsimp only at H
    have A21 := Aside0.mk A210
    clear A210
    obtain rfl := Option.some.inj H
    go_wp2_with (first | ((with_reducible refine gate_callee (f := 15) rfl ?_); refine goesL_ (some 29) rfl rfl Try.func15 (by kernel_rfl) rfl #[] rfl mapz ?_; (with_reducible refine (dropperlaw06_Awake.calls kj3  t578 _ A21.out).mono ?_); rintro e w22 ⟨rfl, hb⟩; refine ⟨_, rfl, ?_⟩; replace BK575 := Aside0.mk (blk_below (g := gb575) blkz hb); replace HB := Aside0.mk (below_step bel hb); clear hb))
    go_ret
    exact ⟨ezz, bel⟩
   ·
    replace c20 := Bool.eq_false_iff.mpr c20
    subst c20
    rw [if_neg (show ¬ (false = true) by decide)] at H
    replace H := Option.bind_eq_some_iff.mp H
    obtain ⟨⟨t579, t582⟩, A230, H⟩ := H
    try dsimp only at H
    have A23 := Aside0.mk A230
    clear A230
    by_cases c24 : t582 = 0
    ·
     rw [if_pos c24] at H
     have c24b0 : (t582 == 0) = true := beq_iff_eq.mpr c24
     have c24b1 : (t582 != 0) = false := bne_eq_false_iff_eq.mpr c24
     clear c24
     replace H := Option.bind_eq_some_iff.mp H
     obtain ⟨⟨t585, t586, t589⟩, A250, H⟩ := H
     try dsimp only at H
     have A25 := Aside0.mk A250
     clear A250
     have H' := Aside0.mk H
     clear H
     obtain ⟨hcz26_0, hcz26_1⟩ := bc2 BK575.out
     obtain ⟨hfz26_0, hfz26_1⟩ := bf2 BK575.out
     go_wp2_with (first | ((with_reducible refine gate_callee (f := 28) rfl ?_); refine goesL_ (some 34) rfl rfl Try.func28 (by kernel_rfl) rfl #[.agg #[.int .i64 a0_0, .slice A0_1 l0_1.length c0_1], .slice A1 l1.length c1, .slice A2 l2.length c2] rfl mapz ?_; (with_reducible refine (key_After.calls kj3 a0_0 _ _ l0_1 (fun k_ => k_ < w.heap.size) _ _ l1 _ _ l2 t579 t582 _ (cbz HR0_1) HC0_1.out ?side3 (cbz HR2) HC2.out A23.out).mono ?_); (case side3 => exact Kd.V_mk HC1.out (Kd.F_below (Kd.C_F (Kd.heap_int .i64) HR1.out) bel)); rintro e w27 ⟨v580, rfl, ho0, hb⟩; refine ⟨_, rfl, ?_⟩; have HO581 := Aside0.mk (Kd.R_lower (Kd.R_mono (ok' := fun k_ => True) ho0 (fun _ hk_ => trivial)) (below_size bel)); replace BK575 := Aside0.mk (blk_below (g := gb575) blkz hb); replace HB := Aside0.mk (below_step bel hb); (try clear hb); (try clear hb2); (try clear hk); (try clear hi); (try clear ho0); obtain ⟨hcz28_0, hcz28_1⟩ := bc2 BK575.out) | ((with_reducible refine gate_callee (f := 37) rfl ?_); refine goesL_ (some 50) rfl rfl Try.func37 (by kernel_rfl) rfl #[.agg #[.int .i64 a0_0, .slice A0_1 l0_1.length c0_1]] rfl mapz ?_; (with_reducible refine (key_Turned.calls kj3 a0_0 _ _ l0_1 t585 t586 t589 _ (cbz HR0_1) HC0_1.out A25.out).mono ?_); rintro e w29 ⟨v587, rfl, ho0, hb⟩; refine ⟨_, rfl, ?_⟩; have HO588 := Aside0.mk (Kd.S_lower (Kd.S_new' ho0 (Kd.R_lt (ownx HO581))) (below_size bel)); replace HO581 := Aside0.mk (Kd.R_below (ownx HO581) hb); replace BK575 := Aside0.mk (blk_below (g := gb575) blkz hb); replace HB := Aside0.mk (below_step bel hb); (try clear hb); (try clear hb2); (try clear hk); (try clear hi); (try clear ho0)) | ((with_reducible refine gate_dst (N := 9) rfl ?_); (try (refine gate_guard (by rfl) ?_; dsimp only)); refine box_event ?hg (N := 9) ?hd (cs := #[.int .i64 0, .slice none 0 0]) (t := 24) ?hr ?_; (case hd => rfl); (case hg => rfl); (case hr => first | (go_simp; done) | (go_simp; rfl)); intro gb590 hg w30 hbox hb; have BK590 := Aside0.mk (hbox); have GW590 := bsz (w := w) hg; have GE590 := GW590; have NB575_590 := neL (g := gb575) hg; have NB590_575 := neR (g := gb575) hg; replace HO581 := Aside0.mk (Kd.R_below (ownx HO581) hb); replace HO588 := Aside0.mk (Kd.S_below (by (with_reducible repeat (first | apply Kd.S_alloc | apply Kd.S_drewN | apply Kd.S_drew)); exact HO588.out) hb); replace BK575 := Aside0.mk (blk_below (g := gb575) blkz hb); replace HB := Aside0.mk (below_step bel hb); clear hb hbox hg; have hnb31 := NB590_575.out; have hnc31 := NB575_590.out; obtain ⟨hcz32_0, hcz32_1⟩ := bc2 BK590.out; obtain ⟨hfz32_0, hfz32_1⟩ := bf2 BK590.out; obtain ⟨Ao33, co33, eo33⟩ := Kd.S_slice HO588.out; subst eo33))
     go_loopg [11, 12] kj3 (fun kq v11 v12 w' => ∃ (x11_2 : List Int) (x12_2 : Int), v12 = .int .i64 x12_2 ∧ Aside0 (dropperlaw06_KeyBack.l0 kq l1 l2 t579 t589 x11_2 x12_2 t585 t586 = some r) ∧ Aside0 (kq ≤ kj3) ∧ Aside0 (Kd.R (Kd.int .i64) 3 w' w.heap.size (fun k_ => some k_ ≠ (v11 : Value).ownBlock) v580 t579) ∧ Aside0 (Kd.R (Kd.int .i64) 3 w' w.heap.size (fun k_ => some k_ ≠ (v580 : Value).ownBlock) v11 x11_2) ∧ Aside0 (Kd.S k64 64 w' w.heap.size (fun k_ => some k_ ≠ (v580 : Value).ownBlock ∧ some k_ ≠ (v11 : Value).ownBlock) (.slice Ao33 t586.length co33) t586) ∧ Aside0 (w'.heap[gb575]? = some (.cells #[.int .i64 a0_0, (.slice A0_1 l0_1.length c0_1)] 24 (0, 0))) ∧ Aside0 (w'.heap[gb590]? = some (.cells #[.int .i64 t585, (.slice Ao33 t586.length co33)] 24 (0, 0))) ∧ Aside0 (Below w.heap.size w w'))
     case atStart => exact ⟨(([] : List Int)), (wrap64 ((l2.length : Int) - 1)), rsz, H', ⟨Nat.le_refl _⟩, ⟨by (with_reducible repeat (first | apply Kd.R_alloc | apply Kd.R_drewN | apply Kd.R_drew)); exact Kd.R_mono (Kd.R_far (p := ⟨gb590, 1, none⟩) (Kd.R_far (p := ⟨gb590, 0, none⟩) (Kd.R_types HO581.out BK590.out (by decide)) (fun _ hk => hk.2) (.int .i64 t585)) (fun _ hk => hk.2) (.slice Ao33 t586.length co33)) (fun _ hk => (by simp [Value.ownBlock]))⟩, ⟨by first | exact Kd.R_nil _ _ _ _ _ | exact Kd.N_nil _ _ _ _ _ | exact Kd.V_nil _ _ _ _ _ | exact Kd.Q_nil _ _ _ _ _ | exact Kd.S_nil _ _ _ _ _⟩, ⟨by (with_reducible repeat (first | apply Kd.S_alloc | apply Kd.S_drewN | apply Kd.S_drew)); exact Kd.S_mono (Kd.S_far (p := ⟨gb590, 1, none⟩) (Kd.S_far (p := ⟨gb590, 0, none⟩) (Kd.S_types HO588.out BK590.out (by decide)) (fun _ hk => hk.2) (.int .i64 t585)) (fun _ hk => hk.2) (.slice Ao33 t586.length co33)) (fun _ hk => ⟨hk.1.2, (by simp [Value.ownBlock])⟩)⟩, ⟨by (with_reducible repeat (first | refine blk_drewN ?_ _ | refine blk_drew ?_ | refine blk_alloc ?_ _)); refine blk_far ?_ NB575_590.out _; (with_reducible repeat (first | refine blk_drewN ?_ _ | refine blk_drew ?_ | refine blk_alloc ?_ _)); refine blk_far ?_ NB575_590.out _; (with_reducible repeat (first | refine blk_drewN ?_ _ | refine blk_drew ?_ | refine blk_alloc ?_ _)); exact BK575.out⟩, ⟨by (with_reducible repeat (first | refine blk_drewN ?_ _ | refine blk_drew ?_ | refine blk_alloc ?_ _)); refine blk_put (cs := #[.int .i64 t585, .slice none 0 0]) ?_ 1 _ rfl; (with_reducible repeat (first | refine blk_drewN ?_ _ | refine blk_drew ?_ | refine blk_alloc ?_ _)); refine blk_put (cs := #[.int .i64 0, .slice none 0 0]) ?_ 0 _ rfl; (with_reducible repeat (first | refine blk_drewN ?_ _ | refine blk_drew ?_ | refine blk_alloc ?_ _)); exact BK590.out⟩, ⟨bel⟩⟩
     case round =>
      clear H'
      (try clear c1); (try clear c2); (try clear p2); (try clear c3); (try clear p6); (try clear c7); (try clear c9); (try clear c12); (try clear c15); (try clear c20); (try clear c24); (try clear c24b0); (try clear c24b1); (try clear c28); (try clear c31); (try clear hcz10_0); (try clear hcz10_1); (try clear hcz12_0); (try clear hcz12_1); (try clear hcz14_0); (try clear hcz14_1); (try clear hcz16_0); (try clear hcz16_1); (try clear hcz18_0); (try clear hcz18_1); (try clear hcz26_0); (try clear hcz26_1); (try clear hcz28_0); (try clear hcz28_1); (try clear hcz32_0); (try clear hcz32_1); (try clear hfz10_0); (try clear hfz10_1); (try clear hfz12_0); (try clear hfz12_1); (try clear hfz14_0); (try clear hfz14_1); (try clear hfz16_0); (try clear hfz16_1); (try clear hfz18_0); (try clear hfz18_1); (try clear hfz26_0); (try clear hfz26_1); (try clear hfz28_0); (try clear hfz28_1); (try clear hfz32_0); (try clear hfz32_1); (try clear p2)
      obtain ⟨x11_2, x12_2, rfl, HA, HK2, HO_7, HO_11, HO_591001, BK575, BK590, HB⟩ := hrel
      cases gk with
      | zero => exact absurd HA.out (by simp [dropperlaw06_KeyBack.l0])
      | succ k2 =>
       have H := HA.out
       clear HA
       simp only [dropperlaw06_KeyBack.l0] at H
       by_cases c34 : x12_2 ≥ 0
       ·
        rw [if_pos c34] at H
        have c34b0 : decide (0 ≤ x12_2) = true := decide_eq_true c34
        clear c34
        by_cases c35 : 0 ≤ x12_2
        ·
         rw [if_pos c35] at H
         have c35b0 : decide (0 ≤ x12_2) = true := decide_eq_true c35
         clear c35
         by_cases c36 : x12_2 < (l2.length : Int)
         ·
          rw [if_pos c36] at H
          have c36b0 : decide (x12_2 < (l2.length : Int)) = true := decide_eq_true c36
          clear c36
          by_cases c37 : x11_2.length < 17592186044416
          ·
           rw [if_pos c37] at H
           have LMc37 := Aside0.mk c37
           clear c37
           obtain ⟨y592, hy592⟩ : ∃ y_ : List Int, y_ = (x11_2 ++ [rd l2 x12_2]) := ⟨_, rfl⟩
           replace H : (dropperlaw06_KeyBack.l0 k2 l1 l2 t579 t589 y592 (wrap64 (x12_2 - 1)) t585 t586) = some r := by first | (rw [hy592]; with_reducible exact H) | (have H2_ := (Option.bind_some _ _).symm.trans H; rw [hy592]; with_reducible exact H2_) | (have H2_ := (Option.bind_some _ _).symm.trans H; with_reducible exact H2_) | with_reducible exact H | (rw [hy592]; exact H) | exact H
           have Ny592 := Aside0.mk hy592
           clear hy592
           have H' := Aside0.mk H
           clear H
           have p591 : 0 ≤ (x12_2 : Int) := of_decide_eq_true asz
           have q591 : x12_2 < (l2.length : Int) := of_decide_eq_true asz
           obtain ⟨ad591, e591, hx591_0⟩ := Kd.at_int HR2.out x12_2 p591 q591
           cases e591
           replace hx591_0 := (HB.out.cell (World.block_lt_of_cell? w _ hx591_0)).trans hx591_0
           replace p591 := eq_true p591
           replace q591 := eq_true q591
           go_wp2_with (first | ((with_reducible refine gate_builtin (b := .append) (xs := #[.tmp 60, .tmp 65]) rfl ?_); (try (refine gate_guard (by rfl) ?_; dsimp only)); at_builtin; refine Kd.R_append (Kd.int .i64) (w0 := w) w.heap.size rfl (.tmp 60) (.tmp 65) 25 3 (.int .i64 0) 8 rfl Try.underlying25 info3 rfl (by decide) (by omega) u11 x11_2 (rd l2 x12_2) [.int .i64 (rd l2 x12_2)] (fun k_ => some k_ ≠ (v580 : Value).ownBlock) (fun _ => False) rfl rfl ?aP (fun _ hk => hk.elim) ?aF ?aO ?aB ?aS ?aL ?_; (case aP => exact rfl); (case aB => exact bel); (case aF => exact (fun k_ hk => Kd.fresh' (Kd.R_lt (ownx HO_7)) k_ hk)); (case aO => exact (ownx HO_11)); (case aS => exact (below_size bel)); (case aL => have := LMc37.out; omega); intro v593 w38 ho hb hg hat; rw [← Ny592.out] at ho; have n0_ := Aside0.mk (Kd.R_after (ok := (fun _ => True)) (by (with_reducible repeat (first | apply Kd.R_alloc | apply Kd.R_drewN | apply Kd.R_drew)); exact Kd.R_mono HO_7.out (fun _ hk => ⟨trivial, hk⟩)) hg hat); have n1_ := Aside0.mk (Kd.S_after (ok := (fun k_ => some k_ ≠ (v580 : Value).ownBlock)) (by (with_reducible repeat (first | apply Kd.S_alloc | apply Kd.S_drewN | apply Kd.S_drew)); exact HO_591001.out) hg hat); have n2_ := Aside0.mk (blk_grown (g := gb575) (o := .cells #[.int .i64 a0_0, .slice A0_1 l0_1.length c0_1] 24 (0, 0)) blkz hg (Kd.R_ne HO_11.out BK575.out (by decide))); have n3_ := Aside0.mk (blk_grown (g := gb590) (o := .cells #[.int .i64 t585, .slice Ao33 t586.length co33] 24 (0, 0)) blkz hg (Kd.R_ne HO_11.out BK590.out (by decide))); have n4_ := Aside0.mk (hb); have n5_ := Aside0.mk (ho); clear HO_7; clear HO_591001; clear BK575; clear BK590; clear HB; clear HO_11; have HO_7 := n0_; have HO_591001 := n1_; have BK575 := n2_; have BK590 := n3_; have HB := n4_; have HO594 := n5_; clear n0_ n1_ n2_ n3_ n4_ n5_; clear ho hb hg hat))
           go_roundg k2
           case measure => have := HJ3.out; have := HK2.out; omega
           case rel => exact ⟨(y592), (wrap64 (x12_2 - 1)), rsz, H', ⟨by have := HJ3.out; have := HK2.out; omega⟩, ⟨by (with_reducible repeat (first | apply Kd.R_alloc | apply Kd.R_drewN | apply Kd.R_drew)); exact Kd.R_mono HO_7.out (fun _ hk => hk.2)⟩, ⟨by (with_reducible repeat (first | apply Kd.R_alloc | apply Kd.R_drewN | apply Kd.R_drew)); exact HO594.out⟩, ⟨by (with_reducible repeat (first | apply Kd.S_alloc | apply Kd.S_drewN | apply Kd.S_drew)); exact HO_591001.out⟩, ⟨blkz⟩, ⟨blkz⟩, ⟨bel⟩⟩
          ·
           rw [if_neg c37] at H
           exact absurd H (by simp)
         ·
          rw [if_neg c36] at H
          exact absurd H (by simp)
        ·
         rw [if_neg c35] at H
         exact absurd H (by simp)
       ·
        rw [if_neg c34] at H
        have c34b0 : decide (0 ≤ x12_2) = false := decide_eq_false c34
        clear c34
        replace H := Option.bind_eq_some_iff.mp H
        obtain ⟨⟨t595, t598⟩, A390, H⟩ := H
        try dsimp only at H
        have A39 := Aside0.mk A390
        clear A390
        by_cases c40 : t589 = 0
        ·
         rw [if_pos c40] at H
         have c40b0 : (t589 == 0) = true := beq_iff_eq.mpr c40
         have c40b1 : (t589 != 0) = false := bne_eq_false_iff_eq.mpr c40
         clear c40
         by_cases c41 : t598 = 0
         ·
          rw [if_pos c41] at H
          have c41b0 : (t598 == 0) = true := beq_iff_eq.mpr c41
          have c41b1 : (t598 != 0) = false := bne_eq_false_iff_eq.mpr c41
          clear c41
          replace H := Option.bind_eq_some_iff.mp H
          obtain ⟨t599, A420, H⟩ := H
          try dsimp only at H
          have A42 := Aside0.mk A420
          clear A420
          by_cases c43 : t599 = true
          ·
           subst c43
           rw [if_pos rfl] at H
           replace H := Option.bind_eq_some_iff.mp H
           obtain ⟨t600, A440, H⟩ := H
           try dsimp only at H
           have A44 := Aside0.mk A440
           clear A440
           obtain rfl := Option.some.inj H
           have hnb45 := NB590_575.out
           have hnc45 := NB575_590.out
           obtain ⟨hcz46_0, hcz46_1⟩ := bc2 BK590.out
           obtain ⟨hfz46_0, hfz46_1⟩ := bf2 BK590.out
           obtain ⟨Ao47, co47, eo47⟩ := Kd.R_slice HO_7.out
           subst eo47
           obtain ⟨Ao48, co48, eo48⟩ := Kd.R_slice HO_11.out
           subst eo48
           go_wp2_with (first | ((with_reducible refine gate_callee (f := 28) rfl ?_); refine goesL_ (some 71) rfl rfl Try.func28 (by kernel_rfl) rfl #[.agg #[.int .i64 t585, .slice Ao33 t586.length co33], .slice Ao47 t579.length co47, .slice Ao48 x11_2.length co48] rfl mapz ?_; (with_reducible refine (key_After.calls k2 t585 _ _ t586 (fun k_ => some k_ = (.slice Ao47 t579.length co47 : Value).ownBlock) _ _ t579 _ _ x11_2 t595 t598 _ ?side1 ?side2 ?side3 ?side4 ?side5 A39.out).mono ?_); (case side1 => repeat (first | exact (Kd.S_reads' HO_591001.out).2.2 | (with_reducible refine Kd.C_alloc ?_ _) | (with_reducible refine Kd.C_drewN ?_ _) | (with_reducible refine Kd.C_drew ?_))); (case side2 => exact (Kd.S_reads' HO_591001.out).2.1); (case side3 => exact Kd.R_V (Kd.R_tight rfl (Kd.R_types (Kd.R_types (Kd.R_apart' (HO_7.out) (Kd.S_typed HO_591001.out) (by decide)) BK575.out (by decide)) BK590.out (by decide)))); (case side4 => repeat (first | exact (Kd.R_reads' HO_11.out).2.2 | (with_reducible refine Kd.C_alloc ?_ _) | (with_reducible refine Kd.C_drewN ?_ _) | (with_reducible refine Kd.C_drew ?_))); (case side5 => exact (Kd.R_reads' HO_11.out).2.1); rintro e w49 ⟨v596, rfl, ho0, hb⟩; refine ⟨_, rfl, ?_⟩; have HO597 := Aside0.mk (Kd.R_lower (Kd.R_new' (Kd.R_new' (Kd.R_mono (ok' := fun k_ => True) ho0 (fun _ hk_ => trivial)) (Kd.R_lt (ownx HO_7))) (Kd.R_lt (ownx HO_11))) (below_size bel)); replace HO_7 := Aside0.mk (Kd.R_elder' (ownx HO_7) (Kd.R_base ho0) hb); replace HO_11 := Aside0.mk (Kd.R_elder' (ownx HO_11) (Kd.R_base ho0) hb); replace HO_591001 := Aside0.mk (Kd.S_elder' (by (with_reducible repeat (first | apply Kd.S_alloc | apply Kd.S_drewN | apply Kd.S_drew)); exact HO_591001.out) (Kd.R_base ho0) hb); replace BK575 := Aside0.mk (blk_below (g := gb575) blkz hb); replace BK590 := Aside0.mk (blk_below (g := gb590) blkz hb); replace HB := Aside0.mk (below_step bel hb); (try clear hb); (try clear hb2); (try clear hk); (try clear hi); (try clear ho0); obtain ⟨Ao50, co50, eo50⟩ := Kd.R_slice HO597.out; subst eo50) | (go_at_call 27; (with_reducible refine (dropperlaw06_SameInts.calls k2 _ _ t595 _ _ l1 true _ ?side1 ?side2 (cbz HR1) HC1.out A42.out).mono ?_); (case side1 => repeat (first | exact (Kd.R_reads' HO597.out).2.2 | (with_reducible refine Kd.C_alloc ?_ _) | (with_reducible refine Kd.C_drewN ?_ _) | (with_reducible refine Kd.C_drew ?_))); (case side2 => exact (Kd.R_reads' HO597.out).2.1); rintro e w' ⟨rfl, ⟨nd, rfl⟩⟩) | (go_at_call 15; (with_reducible refine (dropperlaw06_Awake.calls k2  t600 _ A44.out).mono ?_); rintro e w51 ⟨rfl, hb⟩; replace HO_7 := Aside0.mk (Kd.R_below (ownx HO_7) hb); replace HO_11 := Aside0.mk (Kd.R_below (ownx HO_11) hb); replace HO_591001 := Aside0.mk (Kd.S_below (by (with_reducible repeat (first | apply Kd.S_alloc | apply Kd.S_drewN | apply Kd.S_drew)); exact HO_591001.out) hb); replace HO597 := Aside0.mk (Kd.R_below (ownx HO597) hb); replace BK575 := Aside0.mk (blk_below (g := gb575) blkz hb); replace BK590 := Aside0.mk (blk_below (g := gb590) blkz hb); replace HB := Aside0.mk (below_step bel hb); clear hb))
           go_ret
           exact ⟨ezz, bel⟩
          ·
           replace c43 := Bool.eq_false_iff.mpr c43
           subst c43
           rw [if_neg (show ¬ (false = true) by decide)] at H
           exact absurd H (by simp)
         ·
          rw [if_neg c41] at H
          exact absurd H (by simp)
        ·
         rw [if_neg c40] at H
         exact absurd H (by simp)
    ·
     rw [if_neg c24] at H
     have c24b0 : (t582 == 0) = false := beq_eq_false_iff_ne.mpr c24
     have c24b1 : (t582 != 0) = true := bne_iff_ne.mpr c24
     by_cases c52 : t582 = 2
     ·
      rw [if_pos c52] at H
      have c52b0 : (t582 == 2) = true := beq_iff_eq.mpr c52
      have c52b1 : (t582 != 2) = false := bne_eq_false_iff_eq.mpr c52
      clear c52
      replace H := Option.bind_eq_some_iff.mp H
      obtain ⟨t583, A530, H⟩ := H
      try dsimp only at H
      have A53 := Aside0.mk A530
      clear A530
      obtain rfl := Option.some.inj H
      obtain ⟨hcz54_0, hcz54_1⟩ := bc2 BK575.out
      obtain ⟨hfz54_0, hfz54_1⟩ := bf2 BK575.out
      go_wp2_with (first | ((with_reducible refine gate_callee (f := 28) rfl ?_); refine goesL_ (some 34) rfl rfl Try.func28 (by kernel_rfl) rfl #[.agg #[.int .i64 a0_0, .slice A0_1 l0_1.length c0_1], .slice A1 l1.length c1, .slice A2 l2.length c2] rfl mapz ?_; (with_reducible refine (key_After.calls kj3 a0_0 _ _ l0_1 (fun k_ => k_ < w.heap.size) _ _ l1 _ _ l2 t579 t582 _ (cbz HR0_1) HC0_1.out ?side3 (cbz HR2) HC2.out A23.out).mono ?_); (case side3 => exact Kd.V_mk HC1.out (Kd.F_below (Kd.C_F (Kd.heap_int .i64) HR1.out) bel)); rintro e w55 ⟨v580, rfl, ho0, hb⟩; refine ⟨_, rfl, ?_⟩; have HO581 := Aside0.mk (Kd.R_lower (Kd.R_mono (ok' := fun k_ => True) ho0 (fun _ hk_ => trivial)) (below_size bel)); replace BK575 := Aside0.mk (blk_below (g := gb575) blkz hb); replace HB := Aside0.mk (below_step bel hb); (try clear hb); (try clear hb2); (try clear hk); (try clear hi); (try clear ho0)) | (go_at_call 15; (with_reducible refine (dropperlaw06_Awake.calls kj3  t583 _ A53.out).mono ?_); rintro e w56 ⟨rfl, hb⟩; replace HO581 := Aside0.mk (Kd.R_below (ownx HO581) hb); replace BK575 := Aside0.mk (blk_below (g := gb575) blkz hb); replace HB := Aside0.mk (below_step bel hb); clear hb))
      go_ret
      exact ⟨ezz, bel⟩
     ·
      rw [if_neg c52] at H
      have c52b0 : (t582 == 2) = false := beq_eq_false_iff_ne.mpr c52
      have c52b1 : (t582 != 2) = true := bne_iff_ne.mpr c52
      by_cases c57 : t582 = 5
      ·
       rw [if_pos c57] at H
       have c57b0 : (t582 == 5) = true := beq_iff_eq.mpr c57
       have c57b1 : (t582 != 5) = false := bne_eq_false_iff_eq.mpr c57
       clear c57
       replace H := Option.bind_eq_some_iff.mp H
       obtain ⟨t584, A580, H⟩ := H
       try dsimp only at H
       have A58 := Aside0.mk A580
       clear A580
       obtain rfl := Option.some.inj H
       obtain ⟨hcz59_0, hcz59_1⟩ := bc2 BK575.out
       obtain ⟨hfz59_0, hfz59_1⟩ := bf2 BK575.out
       go_wp2_with (first | ((with_reducible refine gate_callee (f := 28) rfl ?_); refine goesL_ (some 34) rfl rfl Try.func28 (by kernel_rfl) rfl #[.agg #[.int .i64 a0_0, .slice A0_1 l0_1.length c0_1], .slice A1 l1.length c1, .slice A2 l2.length c2] rfl mapz ?_; (with_reducible refine (key_After.calls kj3 a0_0 _ _ l0_1 (fun k_ => k_ < w.heap.size) _ _ l1 _ _ l2 t579 t582 _ (cbz HR0_1) HC0_1.out ?side3 (cbz HR2) HC2.out A23.out).mono ?_); (case side3 => exact Kd.V_mk HC1.out (Kd.F_below (Kd.C_F (Kd.heap_int .i64) HR1.out) bel)); rintro e w60 ⟨v580, rfl, ho0, hb⟩; refine ⟨_, rfl, ?_⟩; have HO581 := Aside0.mk (Kd.R_lower (Kd.R_mono (ok' := fun k_ => True) ho0 (fun _ hk_ => trivial)) (below_size bel)); replace BK575 := Aside0.mk (blk_below (g := gb575) blkz hb); replace HB := Aside0.mk (below_step bel hb); (try clear hb); (try clear hb2); (try clear hk); (try clear hi); (try clear ho0)) | (go_at_call 15; (with_reducible refine (dropperlaw06_Awake.calls kj3  t584 _ A58.out).mono ?_); rintro e w61 ⟨rfl, hb⟩; replace HO581 := Aside0.mk (Kd.R_below (ownx HO581) hb); replace BK575 := Aside0.mk (blk_below (g := gb575) blkz hb); replace HB := Aside0.mk (below_step bel hb); clear hb))
       go_ret
       exact ⟨ezz, bel⟩
      ·
       rw [if_neg c57] at H
       exact absurd H (by simp)

end Go.Proofs.Ytgdfakmlpdeabaa.XKey
-- Written by wip/xprint.py of this repo, over the kit's print.py: out of the translation; the oracles in it are by hand. Not trusted: Lean checks it.
namespace Go.Proofs.Ytgdfakmlpdeabaa.XKey
open Go.RowKit Go.Proofs.Ytgdfakmlpdeabaa.XKey Go.Proofs.YtgdfakmlpdeabaaW.PrintWords Go.Proofs.YtgdfakmlpdeabaaW.PrintLast Go.Proofs.YtgdfakmlpdeabaaW.PrintMore
def dropperlaw06_KeyBack.Pure : Prop := ∀ (a0_0 : Int) (l0_1 : List (S64)) (l1 : List Int) (l2 : List Int), ((Lit.int .i64 a0_0).wf = true) → (l0_1.length ≤ 9223372036854775807 ∧ ∀ y0 ∈ l0_1, (y0.f0.length ≤ 9223372036854775807 ∧ ∀ y1 ∈ y0.f0, (Lit.int .i64 y1).wf = true) ∧ (y0.f1.length ≤ 9223372036854775807 ∧ ∀ y1 ∈ y0.f1, (Lit.int .i64 y1).wf = true)) → (l1.length ≤ 9223372036854775807 ∧ ∀ y0 ∈ l1, (Lit.int .i64 y0).wf = true) → (l2.length ≤ 9223372036854775807 ∧ ∀ y0 ∈ l2, (Lit.int .i64 y0).wf = true) → ∃ k, dropperlaw06_KeyBack.f k a0_0 l0_1 l1 l2 = some true
end Go.Proofs.Ytgdfakmlpdeabaa.XKey

/- A play undone on the turned board. -/
namespace Go.Proofs.Ytgdfakmlpdeabaa.Pure
set_option linter.unusedVariables false
set_option linter.unusedSimpArgs false
open Go.RowKit Go.Proofs.Ytgdfakmlpdeabaa.XKey Go.Proofs.YtgdfakmlpdeabaaW.PrintWords Go.Proofs.YtgdfakmlpdeabaaW.PrintLast Go.Proofs.YtgdfakmlpdeabaaW.PrintMore
open Go.Proofs.Ytgdfakmlpdeabaa.Keys
theorem plays_append (ts : List S64) : ∀ (a b x : List Int), plays ts x (a ++ b) = (plays ts x a).bind fun y => plays ts y b
 | [], b, x => rfl
 | i :: a, b, x => by
  rw [List.cons_append, plays, plays, Option.bind_assoc]
  congr 1
  funext y
  exact plays_append ts a b y
theorem rd_turned (ts : List S64) {a : Int} (h0 : 0 ≤ a) (h1 : a < (ts.length : Int)) : rd_T64 (turned ts) a = turn (rd_T64 ts a) := by
 obtain ⟨i, rfl⟩ := Int.eq_ofNat_of_zero_le h0
 rw [rd_S ts i (by omega), rd_S (turned ts) i (by simp [turned]; omega)]
 simp [turned]
theorem plays_back {n : Int} {ts : List S64} (hts : ∀ t ∈ ts, okT n t = true) : ∀ {ms l r : List Int}, Names ts ms → St n l → plays ts l ms = some r → plays (turned ts) r ms.reverse = some l
 | [], l, r, _, h, e => by rw [plays] at e; cases e; rfl
 | a :: ms, l, r, hN, h, e => by
  rw [plays] at e
  obtain ⟨y, e1, e2⟩ := Option.bind_eq_some_iff.1 e
  have ha := hN a (List.mem_cons_self ..)
  have ht := okT_at hts ha.1 ha.2
  have ih := plays_back hts (fun x hx => hN x (List.mem_cons_of_mem _ hx)) (h.mv ht e1) e2
  rw [List.reverse_cons, plays_append, ih, Option.bind_some, plays, rd_turned ts ha.1 ha.2]
  obtain ⟨⟨p1, p2⟩, p3, p4⟩ := (okT_iff n _).1 ht
  have h1 := h.len
  have hb := mv_back e1 (by omega) (by omega) h.rng p2 p4
  show ((mv y _ _).bind fun y => plays (turned ts) y []) = some l
  simp only [turn]
  rw [hb]; rfl
theorem KeyBack : dropperlaw06_KeyBack.Pure := by
 intro n ts l ms _ ht hl hm
 have hf : Fits ts := ⟨ht.1, fun t h => ⟨(ht.2 t h).1.1, (ht.2 t h).2.1⟩⟩
 refine Ev.rounds (r := true) (g := fun k => dropperlaw06_KeyBack.f k n ts l ms) ?_
 unfold dropperlaw06_KeyBack.f
 have HT : Ev (fun k => dropperlaw06_KeyBack.j0 k l ms true n ts) true := by
  refine Ev.step (fun k => by rw [dropperlaw06_KeyBack.j0]) ?_
  exact ev_pos rfl (ev_bind1 awake_ev (Ev.now _))
 refine ev_bind1 (rValid_ev n ts hf) ?_
 cases hk : okB n ts with
 | false => exact ev_neg (by decide) HT
 | true =>
  obtain ⟨⟨b1, b2⟩, b3, b4⟩ := (okB_iff n ts).1 hk
  refine ev_pos rfl (ev_bind1 (Keys_ev n ts l hl.1) ?_)
  cases hq : okL n 0 100 l with
  | false => exact ev_neg (by decide) HT
  | true =>
   refine ev_pos rfl ?_
   have hst := St.of hq
   by_cases hc : (ms.length : Int) > 200
   ·
    rw [decide_eq_true hc]; exact HT
   rw [decide_eq_false hc]
   refine Ev.step (fun k => by rw [dropperlaw06_KeyBack.j0]) ?_
   refine ev_neg (by decide) (ev_bind1 (After_ev n ts l ms) ?_)
   have h0 : asks n ts [l] = 0 := by unfold asks; rw [if_pos hk]; simp [hq]
   unfold AfterS
   rw [if_pos h0, if_neg (show ¬ (ms.length : Int) > 1000 by omega)]
   by_cases h2 : okL (ms.length : Int) 0 (wrap64 ((ts.length : Int) - 1)) ms = true
   ·
    rw [if_pos h2]
    have hN := names_of b3 h2
    unfold playsS
    cases hp : plays ts l ms with
    | none => exact ev_neg (by decide) (ev_neg (by decide) (ev_pos rfl (ev_bind1 awake_ev (Ev.now _))))
    | some r =>
     have hr := plays_st b4 hN hst hp
     refine ev_pos rfl (ev_bind1 (Turned_ev n ts) ?_)
     have e : TurnedS n ts = (n, turned ts, 0) := by unfold TurnedS; rw [if_pos hk]
     rw [e]
     simp only
     have H : ∀ (i : Nat), i ≤ ms.length → Ev (fun k => dropperlaw06_KeyBack.l0 k l ms r 0 ((ms.drop i).reverse) ((i : Int) - 1) n (turned ts)) true := by
      intro i
      induction i with
      | zero =>
       intro hi
       refine Ev.step (fun k => by rw [dropperlaw06_KeyBack.l0]) ?_
       refine ev_neg (by omega) ?_
       rw [List.drop_zero]
       refine ev_bind1 (After_ev n (turned ts) r ms.reverse) ?_
       have h0' : asks n (turned ts) [r] = 0 := by unfold asks; rw [okB_turned, if_pos hk]; simp [hr.mk']
       have hl' : (turned ts).length = ts.length := by simp [turned]
       have hN' : Names (turned ts) ms.reverse := by intro a ha; rw [hl']; exact hN a (List.mem_reverse.1 ha)
       have e2 : AfterS n (turned ts) r ms.reverse = (l, 0) := by
        unfold AfterS
        rw [if_pos h0', if_neg (by simp; omega), if_pos (of_names (by omega) hN')]
        unfold playsS
        rw [plays_back b4 hN hst hp]
       rw [e2]
       exact ev_pos rfl (ev_pos rfl (ev_bind1 (same_refl l hl.1) (ev_pos rfl (ev_bind1 awake_ev (Ev.now _)))))
      | succ i ih =>
       intro hi
       refine Ev.step (fun k => by rw [dropperlaw06_KeyBack.l0]) ?_
       refine ev_pos (by omega) (ev_pos (by omega) (ev_pos (by omega) (ev_pos ?_ ?_)))
       ·
        simp; omega
       have e3 : (((i + 1 : Nat) : Int) - 1) = (i : Int) := by omega
       have e4 : (ms.drop (i + 1)).reverse ++ [rd ms (i : Int)] = (ms.drop i).reverse := by
        rw [List.drop_eq_getElem_cons (by omega : i < ms.length), rd_at ms i (by omega), List.reverse_cons]
       rw [e3, e4, wrap_id (x := (i : Int) - 1) (by omega) (by omega)]
       exact ih (by omega)
     have := H ms.length (Nat.le_refl _)
     rw [List.drop_length, List.reverse_nil] at this
     rw [wrap_id (by omega) (by omega)]
     exact this
   ·
    rw [if_neg h2]
    exact ev_neg (by decide) (ev_pos rfl (ev_bind1 awake_ev (Ev.now _)))
end Go.Proofs.Ytgdfakmlpdeabaa.Pure

-- Written by wip/xprint.py of this repo, over the kit's print.py: out of the translation; the oracles in it are by hand. Not trusted: Lean checks it.
namespace Go.Proofs.Ytgdfakmlpdeabaa.keyBack
open Go.ChangeShapes Go.WideShapes Go.ChangeAt Go.RowKit Go.Proofs.Ytgdfakmlpdeabaa.Open Go.Proofs.Ytgdfakmlpdeabaa.XKey Go.Proofs.YtgdfakmlpdeabaaW.PrintWords Go.Proofs.YtgdfakmlpdeabaaW.PrintLast Go.Proofs.YtgdfakmlpdeabaaW.PrintMore
open Go.ChangeMaps (open_string shut_string)
set_option linter.unusedVariables false
set_option linter.unusedSimpArgs false
theorem own : ownKnob Try.prog.godebug = none := by kernel_rfl
theorem laidOut : laidOutB Try.prog = true := by kernel_rfl
set_option maxHeartbeats 8000000 in
set_option maxRecDepth 100000 in
theorem lifted (os : Os) (started : os.Started) (H : Type) (enc : TypeId × Value → H) :
  ReturnsInHanded {} Try.checked os 9 .any (Rows.keyBackSpec.pre6 enc Try.prog Try.f9 Rows.keyBackRow.domain false) (Rows.keyBackSpec.post enc Try.prog Try.f9 false true false false) := by
 refine returnsInHanded_of_change_sized (C := Try.checked) own started (by kernel_rfl) Try.func9
  (ChangeSpec.witness6 (enc := enc) (C := Try.checked) false ⟨#[], #[.agg #[.int .i64 0, .slice none 0 0], .slice none 0 0, .slice none 0 0], []⟩ 8 (by kernel_rfl) (by kernel_rfl) (by kernel_rfl) (by kernel_rfl)) ?_
 intro W base args ds gs before hval0 hW hcnd hsz0 _
 have hval : ∀ (j : Nat) t v, Try.f9.params[j]? = some t → args[j]? = some v → Value.okWide Try.prog W .any base t v := hval0
 have hW' := hW
 obtain ⟨p, q, hA0, hV, rfl, hfz, hnd⟩ := hW
 have hA : DataW.TrodAll enc Try.prog W 0 (fun _ => true) true Try.f9.params.toList args.toList ds p := hA0
 rw [Try.params9] at hA hval
 obtain ⟨v0, vs0, d0, ds0, p0, q0, hargs, rfl, rfl, h0, r0⟩ := trodAll_cons hA
 obtain ⟨v1, vs1, d1, ds1, p1, q1, rfl, rfl, rfl, h1, r1⟩ := trodAll_cons r0
 obtain ⟨v2, vs2, d2, ds2, p2, q2, rfl, rfl, rfl, h2, r2⟩ := trodAll_cons r1
 obtain ⟨rfl, rfl, rfl⟩ := trodAll_nil r2
 obtain rfl : args = #[v0, v1, v2] := by cases args; simp_all
 obtain ⟨rfl, rfl⟩ := trodVars_none hV
 obtain ⟨cs0, rfl, hz0⟩ := okWide_struct Try.underlying24 (hval 0 24 v0 rfl rfl)
 have k0 := h0
 have lt0 : ∀ x ∈ p0, x.block < W.heap.size := by obtain ⟨m, hm⟩ := k0; exact DataW.trod_lt m _ _ _ hm
 obtain ⟨fuel0, hf0⟩ := h0
 obtain ⟨⟨u0_0, u0_1⟩, hK0, hG0⟩ := (opens_struct Try.underlying24 (by kernel_rfl) (opensF_cons rfl (by kernel_rfl) (opens_int Try.underlying3) (opensF_one rfl (by kernel_rfl) (opens_slice Try.underlying22 (opens_iso (f := fun x : S64 => (x.f0, x.f1)) (fun p => ⟨p.1, p.2⟩) (fun _ => rfl) (opens_struct Try.underlying64 (by kernel_rfl) (opensF_cons rfl (by kernel_rfl) (opens_slice Try.underlying25 (opens_int Try.underlying3) (by kernel_rfl)) (opensF_one rfl (by kernel_rfl) (opens_slice Try.underlying25 (opens_int Try.underlying3) (by kernel_rfl)))))) (by kernel_rfl))))) H enc W fuel0 _ _ hf0
 obtain ⟨c0_0, r0_0, e0_0, hk0_0, hk0_1⟩ := hK0
 obtain ⟨g0_0, g0_1⟩ := hG0
 have hq0_0 := hk0_0
 obtain ⟨A0_1, q0_1, hq0_1, hc0_1, hr0_1⟩ := hk0_1
 have hq0_0' : c0_0 = _ := hq0_0
 obtain rfl : cs0 = #[.int .i64 u0_0, .slice A0_1 u0_1.length q0_1] := by
  have h_ := agg_of (l := [.int .i64 u0_0, .slice A0_1 u0_1.length q0_1]) (cs := cs0) (by rw [e0_0, hq0_0', hq0_1]; rfl)
  exact h_
 obtain ⟨b1, len1, cap1, rfl⟩ := okWide_slice Try.underlying25 (hval 1 25 v1 rfl rfl)
 have k1 := h1
 have lt1 : ∀ x ∈ p1, x.block < W.heap.size := by obtain ⟨m, hm⟩ := k1; exact DataW.trod_lt m _ _ _ hm
 obtain ⟨fuel1, hf1⟩ := h1
 obtain ⟨l1, ⟨A1, c1, hcs1, hc1, hr1⟩, hg1⟩ := (opens_slice Try.underlying25 (opens_int Try.underlying3) (by kernel_rfl)) H enc W fuel1 _ _ hf1
 simp [Value.cells] at hcs1
 obtain ⟨rfl, rfl, rfl⟩ := hcs1
 obtain ⟨b2, len2, cap2, rfl⟩ := okWide_slice Try.underlying25 (hval 2 25 v2 rfl rfl)
 have k2 := h2
 have lt2 : ∀ x ∈ p2, x.block < W.heap.size := by obtain ⟨m, hm⟩ := k2; exact DataW.trod_lt m _ _ _ hm
 obtain ⟨fuel2, hf2⟩ := h2
 obtain ⟨l2, ⟨A2, c2, hcs2, hc2, hr2⟩, hg2⟩ := (opens_slice Try.underlying25 (opens_int Try.underlying3) (by kernel_rfl)) H enc W fuel2 _ _ hf2
 simp [Value.cells] at hcs2
 obtain ⟨rfl, rfl, rfl⟩ := hcs2
 clear hA0 hval0 hsz0
 obtain ⟨k, h⟩ := Pure.KeyBack u0_0 u0_1 l1 l2 g0_0 g0_1 hg1 hg2
 refine (dropperlaw06_KeyBack.calls k u0_0 _ _ u0_1 _ _ l1 _ _ l2 true W hr0_1 hc0_1 hr1 hc1 hr2 hc2 h).mono fun e W' ⟨he, bel0⟩ => ?_
 have bel : Below W.heap.size W W' := bel0
 subst he
 exact ⟨_, rfl, _, _, _, [], _, [], hW', trodAll_mk1 (shut_bool Try.underlying4 _), (trodAll_cons_mk (Below.trod laidOut (by kernel_rfl) (of_decide_eq_true (by kernel_rfl)) k0 bel lt0) (trodAll_cons_mk (Below.trod laidOut (by kernel_rfl) (of_decide_eq_true (by kernel_rfl)) k1 bel lt1) (trodAll_cons_mk (Below.trod laidOut (by kernel_rfl) (of_decide_eq_true (by kernel_rfl)) k2 bel lt2) trodAll_mk0))), rfl, bel.frame _, fun h => by cases h⟩
theorem over : Rows.keyBackRow.holds Try.pinned (OpenSpec.ofChange Rows.keyBackSpec) :=
 OpenClaim.holds_of_wide 9 Try.f9 rfl rfl rfl rfl rfl rfl rfl ⟨rfl, rfl, rfl, rfl, rfl⟩ rfl rfl rfl rfl rfl (by kernel_rfl) Try.func9 (by kernel_rfl)
  (of_decide_eq_true (by kernel_rfl)) (by unfold Func.isWrapper; first | (rw [if_pos (by decide +kernel)]; kernel_rfl) | (rw [if_neg (by decide +kernel)]; exact ⟨rfl, rfl⟩))
  (fun os started H enc _ => lifted os started H enc)
theorem proved : Rows.KeyBackSaid := over
#print axioms proved
end Go.Proofs.Ytgdfakmlpdeabaa.keyBack
namespace Go.Proofs.Ytgdfakmlpdeabaa
theorem keyBack_holds : Rows.KeyBackSaid := keyBack.proved
end Go.Proofs.Ytgdfakmlpdeabaa
