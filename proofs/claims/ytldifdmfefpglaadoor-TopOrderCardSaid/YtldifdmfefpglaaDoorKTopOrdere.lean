-- Written by wip/pack.py of this repo: texts of this claim, put together.
import Derived.Test.YtldifdmfefpglaaDoorKTopOrderd
namespace Go.Proofs.YtldifdmfefpglaaDoor.XFeed
open Go.RowKit Go.Proofs.YtldifdmfefpglaaDoorW.PrintWords Go.Proofs.YtldifdmfefpglaaDoorW.PrintLast Go.Proofs.YtldifdmfefpglaaDoorW.PrintMore
attribute [local go_sem] max2_int min2_int max_two min_two max_three min_three max_four min_four   -- for this text's walks alone
set_option linter.unusedVariables false
set_option linter.unusedSimpArgs false
/-! ### feed_Reach: function 9 -/
theorem feed_Reach.hold {P : World → Prop} (w : World) (Q : World → Prop) (hq : Q w) (h : ∀ w', Q w' → P w') : P w := h w hq
def feed_Reach.f (k : Nat) (a0_0 : Int) (l0_1 : List S47) (l0_2 : List S49) (a1 : Int) (l3 : List Int) : Option (List Int × Int) :=
 (feed_ruled.f k a0_0 l0_1 l0_2 a1 l3).bind fun b => if b.2 = 0 then ((feed_rule_reach.f k b.1 l0_1 l0_2 l3 a1).bind fun m => if m ≠ [] ∧ m.length < 2000000 ∧ (m.map Prod.fst).Nodup then some (((m.map Prod.fst).mergeSort fun x y => decide (x ≤ y)), 0) else none) else some ([], b.2)
set_option maxHeartbeats 8000000 in
set_option maxRecDepth 100000 in
theorem feed_Reach.calls (k : Nat) (a0_0 : Int) (A0_1 : Option Addr) (c0_1 : Nat) (l0_1 : List S47) (A0_2 : Option Addr) (c0_2 : Nat) (l0_2 : List S49) (a1 : Int) (A3 : Option Addr) (c3 : Nat) (l3 : List Int) (r1 : List Int) (r2 : Int) (w : World) (hr0_1 : Kd.C k47 w A0_1 l0_1.length l0_1) (hc0_1 : l0_1.length ≤ c0_1) (hr0_2 : Kd.C k49 w A0_2 l0_2.length l0_2) (hc0_2 : l0_2.length ≤ c0_2) (hr3 : Kd.C (Kd.int .i64) w A3 l3.length l3) (hc3 : l3.length ≤ c3) (hT : Tab.Tabs w) (h : feed_Reach.f k a0_0 l0_1 l0_2 a1 l3 = some (r1, r2)) :
  Calls Tryd.prog 9 #[.agg #[.int .i64 a0_0, .slice A0_1 l0_1.length c0_1, .slice A0_2 l0_2.length c0_2], .int .i64 a1, .slice A3 l3.length c3] w fun e w' => ∃ v0_ : Value, e = .returned (.tuple #[v0_, .int .i64 r2]) ∧ Kd.R (Kd.int .i64) 3 w' w.heap.size (fun _ => True) v0_ r1 ∧ Below w.heap.size w w' := by
 have HT := Aside0.mk hT
 have hu1 := Tryd.underlying25
 have hu2 := Tryd.underlying54
 have hu3 := Tryd.underlying56
 have HR0_1 := Aside0.mk hr0_1
 have HR0_2 := Aside0.mk hr0_2
 have HC0_1 := Aside0.mk hc0_1
 have HC0_2 := Aside0.mk hc0_2
 have HR3 := Aside0.mk hr3
 have HC3 := Aside0.mk hc3
 have HB := Aside0.mk (Below.refl w.heap.size w)
 clear hr0_1 hr0_2 hr3 hT hc0_1 hc0_2 hc3
 unfold feed_Reach.f at h
 obtain ⟨⟨tn, te⟩, A50, H0⟩ := Option.bind_eq_some_iff.mp h
 have A5 := Aside0.mk A50
 have H := Aside0.mk H0
 clear h A50 H0
 go_enter Tryd.func9, Tryd.ntmps9
 go_upto_region 2 with (first | ((with_reducible refine gate_dst (N := 3) rfl ?_); refine box_event ?hg (N := 3) ?hd (cs := #[.int .i64 a0_0, .slice A0_1 l0_1.length c0_1, .slice A0_2 l0_2.length c0_2]) (t := 25) ?hr ?_; (case hd => rfl); (case hg => rfl); (case hr => first | (go_simp; done) | (go_simp; rfl)); intro g1 hg wx hbox hb; have BKg1 := Aside0.mk (hbox); have GWg1 := bsz (w := w) hg; replace HB := Aside0.mk (below_step bel hb); clear hb hbox hg; have kg1_0 := blkc BKg1.out 0 (.int .i64 a0_0) rfl; have kg1_1 := blkc BKg1.out 1 (.slice A0_1 l0_1.length c0_1) rfl; have kg1_2 := blkc BKg1.out 2 (.slice A0_2 l0_2.length c0_2) rfl) | ((with_reducible refine gate_callee (f := 22) rfl ?_); refine goesL_ (some 16) rfl rfl Tryd.func22 (by kernel_rfl) rfl #[.agg #[.int .i64 a0_0, .slice A0_1 l0_1.length c0_1, .slice A0_2 l0_2.length c0_2], .int .i64 a1, .slice A3 l3.length c3] rfl mapz ?_; (with_reducible refine (feed_ruled.calls k a0_0 _ _ l0_1 _ _ l0_2 a1 _ _ l3 tn te _ ?side1 ?side2 ?side3 ?side4 ?side5 ?side6 ?sideT A5.out).mono ?_); (case sideT => first | exact HT.out | exact Tab.Tabs.below HT.out bel); (case side1 => exact cbz HR0_1); (case side2 => exact HC0_1.out); (case side3 => exact cbz HR0_2); (case side4 => exact HC0_2.out); (case side5 => exact cbz HR3); (case side6 => exact HC3.out); rintro e wy ⟨rfl, hb⟩; refine ⟨_, rfl, ?_⟩; replace BKg1 := Aside0.mk (blk_below (g := g1) blkz hb); replace HB := Aside0.mk (below_step bel hb); (try clear hb)) | ((with_reducible refine gate_dst (N := 8) rfl ?_); refine box_event ?hg (N := 8) ?hd (cs := #[.int .i64 0, .slice none 0 0, .slice none 0 0, .slice none 0 0]) (t := 56) ?hr ?_; (case hd => rfl); (case hg => rfl); (case hr => first | (go_simp; done) | (go_simp; rfl)); intro g2 hg wx hbox hb; have BKg2 := Aside0.mk (hbox); have GWg2 := bsz (w := w) hg; have NB12 := neL (g := g1) hg; have NB21 := neR (g := g1) hg; replace BKg1 := Aside0.mk (blk_below (g := g1) blkz hb); replace HB := Aside0.mk (below_step bel hb); clear hb hbox hg; have hnb1 := NB21.out; have hnb2 := NB12.out; have kg2_0 := blkc BKg2.out 0 (.int .i64 0) rfl; have fg2_0 := blk_frozen BKg2.out 0; have kg2_1 := blkc BKg2.out 1 (.slice none 0 0) rfl; have fg2_1 := blk_frozen BKg2.out 1; have kg2_2 := blkc BKg2.out 2 (.slice none 0 0) rfl; have fg2_2 := blk_frozen BKg2.out 2; have kg2_3 := blkc BKg2.out 3 (.slice none 0 0) rfl; have fg2_3 := blk_frozen BKg2.out 3))
 (try simp only [Act.put, List.setIfInBounds_toArray, List.set_cons_zero, List.set_cons_succ])
 refine feed_Reach.hold (P := fun W => Code.wp _ _ _ _ W) _ (fun W => Aside0 (W.heap[g1]? = some (.cells #[.int .i64 a0_0, .slice A0_1 l0_1.length c0_1, .slice A0_2 l0_2.length c0_2] 25 (0, 0))) ∧ Aside0 (W.heap[g2]? = some (.cells #[.int .i64 tn, .slice A0_1 l0_1.length c0_1, .slice A0_2 l0_2.length c0_2, .slice A3 l3.length c3] 56 (0, 0))) ∧ Aside0 (Below w.heap.size w W)) ⟨⟨(by (with_reducible repeat (first | refine blk_drewN ?_ _ | refine blk_drew ?_ | refine blk_alloc ?_ _)); refine blk_far ?_ NB12.out _; (with_reducible repeat (first | refine blk_drewN ?_ _ | refine blk_drew ?_ | refine blk_alloc ?_ _)); refine blk_far ?_ NB12.out _; (with_reducible repeat (first | refine blk_drewN ?_ _ | refine blk_drew ?_ | refine blk_alloc ?_ _)); refine blk_far ?_ NB12.out _; (with_reducible repeat (first | refine blk_drewN ?_ _ | refine blk_drew ?_ | refine blk_alloc ?_ _)); refine blk_far ?_ NB12.out _; (with_reducible repeat (first | refine blk_drewN ?_ _ | refine blk_drew ?_ | refine blk_alloc ?_ _)); exact BKg1.out)⟩, ⟨(by (with_reducible repeat (first | refine blk_drewN ?_ _ | refine blk_drew ?_ | refine blk_alloc ?_ _)); refine blk_put (cs := #[.int .i64 tn, .slice A0_1 l0_1.length c0_1, .slice A0_2 l0_2.length c0_2, .slice none 0 0]) ?_ 3 _ rfl; (with_reducible repeat (first | refine blk_drewN ?_ _ | refine blk_drew ?_ | refine blk_alloc ?_ _)); refine blk_put (cs := #[.int .i64 tn, .slice A0_1 l0_1.length c0_1, .slice none 0 0, .slice none 0 0]) ?_ 2 _ rfl; (with_reducible repeat (first | refine blk_drewN ?_ _ | refine blk_drew ?_ | refine blk_alloc ?_ _)); refine blk_put (cs := #[.int .i64 tn, .slice none 0 0, .slice none 0 0, .slice none 0 0]) ?_ 1 _ rfl; (with_reducible repeat (first | refine blk_drewN ?_ _ | refine blk_drew ?_ | refine blk_alloc ?_ _)); refine blk_put (cs := #[.int .i64 0, .slice none 0 0, .slice none 0 0, .slice none 0 0]) ?_ 0 _ rfl; (with_reducible repeat (first | refine blk_drewN ?_ _ | refine blk_drew ?_ | refine blk_alloc ?_ _)); exact BKg2.out)⟩, ⟨bel⟩⟩ ?_
 clear BKg1 BKg2 HB
 rintro W ⟨BKg1, BKg2, HB⟩
 have hge := GWg2.out
 clear kg1_0 kg1_1 kg1_2 kg2_0 fg2_0 kg2_1 fg2_1 kg2_2 fg2_2 kg2_3 fg2_3 hnb1 hnb2
 have H := H.out
 by_cases c1 : te = 0
 ·
  rw [if_pos c1] at H
  have b0 : (te != 0) = false := bne_eq_false_iff_eq.mpr c1
  clear c1
  obtain ⟨m, A80, H⟩ := Option.bind_eq_some_iff.mp H
  have A8 := Aside0.mk A80
  by_cases hm : ¬ (m ≠ [] ∧ m.length < 2000000 ∧ (m.map Prod.fst).Nodup)
  ·
   rw [if_neg hm] at H; cases H
  replace hm := Decidable.not_not.1 hm
  rw [if_pos hm] at H
  have HM := Aside0.mk hm
  cases H
  clear A80 hm
  have k0 := blkc BKg2.out 0 (.int .i64 tn) rfl
  have f0 := blk_frozen BKg2.out 0
  have k1 := blkc BKg2.out 1 (.slice A0_1 l0_1.length c0_1) rfl
  have f1 := blk_frozen BKg2.out 1
  have k2 := blkc BKg2.out 2 (.slice A0_2 l0_2.length c0_2) rfl
  have f2 := blk_frozen BKg2.out 2
  have k3 := blkc BKg2.out 3 (.slice A3 l3.length c3) rfl
  have f3 := blk_frozen BKg2.out 3
  go_wp2_with (first | ((with_reducible refine gate_callee (f := 23) rfl ?_); refine goesL_ (some 24) rfl rfl Tryd.func23 (by kernel_rfl) rfl #[.agg #[.int .i64 tn, .slice A0_1 l0_1.length c0_1, .slice A0_2 l0_2.length c0_2, .slice A3 l3.length c3], .int .i64 a1] rfl mapz ?_; (with_reducible refine (feed_rule_reach.calls k tn _ _ l0_1 _ _ l0_2 _ _ l3 a1 m _ ?side1 ?side2 ?side3 ?side4 ?side5 ?side6 ?sideT A8.out).mono ?_); (case sideT => first | exact HT.out | exact Tab.Tabs.below HT.out bel); (case side1 => exact cbz HR0_1); (case side2 => exact HC0_1.out); (case side3 => exact cbz HR0_2); (case side4 => exact HC0_2.out); (case side5 => exact cbz HR3); (case side6 => exact HC3.out); rintro e wz ⟨b, S, rfl, hm, hwf, hb⟩; refine ⟨_, rfl, ?_⟩; obtain ⟨D, hown, hD, _⟩ := hm; have HOWN := Aside0.mk hown; have HD := Aside0.mk hD; have HWF := Aside0.mk hwf; replace HB := Aside0.mk (below_step bel hb); have HBS := Aside0.mk (below_size HB.out); clear hwf hb hD hown) | (at_range; refine wpList_range_own _ rfl _ 59 rfl 3 26 (Maps.int_keyed Tryd.underlying3) Tryd.underlying59 _ b m.length D rfl HOWN.out ?_; intro w0 hrg0 hg0 hs0))
  (try go_frame)
  have HSZ := Aside0.mk (ownsMap_size HOWN.out)
  have HRG := Aside0.mk hrg0
  have HLB := Aside0.mk HOWN.out.lt
  replace HB := Aside0.mk (HB.out.grown hg0 (by have := HBS.out; omega) (fun j hj => by cases hj))
  have HS0 := Aside0.mk hs0
  clear hrg0 hg0 hs0 k0 k1 k2 k3 f0 f1 f2 f3
  go_loopg [10] (Maps.size D) (fun kq v10 w' => ∃ (left : Lit → Bool) (out : List Int), Aside0 (w'.ranges Tryd.prog 3 anyElem b wz.heap.size m.length D left kq) ∧ Aside0 (Coll m left out) ∧ Aside0 (kq + out.length ≤ Maps.size D) ∧ Aside0 ((Kd.int .i64).R 3 w' w.heap.size (fun j => j ≠ b ∧ j ≠ wz.heap.size) v10 out) ∧ Aside0 (Below w.heap.size w w'))
  case atStart => exact ⟨_, [], HRG, ⟨Coll.start HD.out⟩, ⟨by simp⟩, ⟨Kd.R_nil _ _ _ _ _⟩, HB⟩
  case round =>
   clear HRG HB
   obtain ⟨left, out, HRG, HC, HN, HO, HB⟩ := hrel
   go_wp2_with (first | (at_next; refine wpList_next_ranges _ rfl (.tmp 25) rfl 3 (Maps.int_keyed Tryd.underlying3) anyElem (Value.int .i64) id (fun key kl hkey => by obtain ⟨x, rfl, _⟩ := Maps.keyOf_int_inv Tryd.underlying3 hkey; exact ⟨x, rfl⟩) anyElem_all b wz.heap.size m.length D left _ rfl HRG.out ?_ ?_))
   ·
    intro hc0 hl0
    have HP := Aside0.mk (HC.out.perm hl0 (fun p hp => feed_rule_reach.wf_lit (HWF.out p hp)) HM.out.2.2)
    have HSO : Aside0 (slices_Sort_int_int.f out = some ((m.map Prod.fst).mergeSort fun x y => decide (x ≤ y))) := ⟨by
     have hl := HP.out.length_eq
     rw [List.length_map] at hl
     have hne : out ≠ [] := fun e => by rw [e] at hl; exact HM.out.1 (List.length_eq_zero_iff.1 hl.symm)
     unfold slices_Sort_int_int.f
     rw [if_neg (fun e => e.elim hne (fun e => by have := HM.out.2.1; omega)), mergeSort_int_perm HP.out]⟩
    clear hc0 hl0
    go_wp2_with (first | ((with_reducible refine gate_callee (f := 24) rfl ?_); refine goesL_ (some 35) rfl rfl Tryd.func24 (by kernel_rfl) rfl _ rfl mapz ?_; (refine (slices_Sort_int_int.calls _ _ out _ w _ bel HO.out HSO.out).mono ?_); rintro e ww ⟨rfl, ho, hb, _⟩; refine ⟨_, rfl, ?_⟩; have HO2 := Aside0.mk ho; replace HB := Aside0.mk hb; clear ho hb))
    go_ret2
    exact ⟨_, rfl, feed_rule_reach.R_ok HO2.out (fun _ _ _ _ _ => trivial), bel⟩
   ·
    intro x c kl yd yp w2 cnt2 hkey hlk hv hat hrg2 hlt hg2 hs2 hen
    obtain ⟨x', ex, rfl, hwx⟩ := Maps.keyOf_int_inv Tryd.underlying3 hkey
    cases ex
    have HC2 := Aside0.mk (HC.out.step hwx hlk)
    have HR2 := Aside0.mk hrg2
    have HO2 := Aside0.mk (Kd.R_grown HO.out hg2 (fun k hk e => hk.2 (by injection e)))
    have HB2 := Aside0.mk (HB.out.grown hg2 (below_size HB.out) (fun j hj => by cases hj; have := HBS.out; omega))
    have HLT := Aside0.mk hlt
    have HBR : Aside0 (b < w2.heap.size ∧ wz.heap.size < w2.heap.size) := ⟨hrg2.owns.lt, hrg2.lt⟩
    clear hs2 hkey hlk hv hat hrg2 hlt hg2 hwx
    go_wp2_with (first | ((with_reducible refine gate_builtin (b := .append) (xs := #[.tmp 30, .tmp 32]) rfl ?_); at_builtin; refine Kd.R_append (Kd.int .i64) (w0 := w) w.heap.size rfl (.tmp 30) (.tmp 32) 26 3 (.int .i64 0) 8 rfl Tryd.underlying26 info3 rfl (by decide) (by omega) u10 out x [.int .i64 x] (fun j => j ≠ b ∧ j ≠ wz.heap.size) (fun _ => False) rfl rfl ?aP (fun _ hk => hk.elim) ?aF ?aO ?aB ?aS ?aL ?_; (case aP => exact rfl); (case aB => exact HB2.out); (case aF => exact (fun j hj => by have := HBR.out; exact ⟨by omega, by omega⟩)); (case aO => exact HO2.out); (case aS => exact (below_size HB2.out)); (case aL => have := HN.out; have := HSZ.out; have := HM.out.2.1; omega); intro v33 w3 ho hb hg hat; have HO3 := Aside0.mk ho; have HB3 := Aside0.mk hb; have HR3 := Aside0.mk (HR2.out.kept hg (fun e => (HO2.out.1 _ e.symm).1 rfl) (fun e => (HO2.out.1 _ e.symm).2 rfl)); clear ho hb hg hat))
    go_roundg cnt2
    case measure => exact HLT.out
    case rel => exact ⟨_, out ++ [x], HR3, HC2, ⟨by have := HN.out; have := HLT.out; rw [List.length_append]; simp only [List.length_singleton]; omega⟩, HO3, HB3⟩
 ·
  rw [if_neg c1] at H
  have b0 : (te != 0) = true := bne_iff_ne.mpr c1
  clear c1
  cases H
  go_wp2
  go_ret2
  exact ⟨_, rfl, Kd.R_nil _ _ _ _ _, bel⟩

/-! ### feed_Order: function 10 -/
theorem feed_Order.hold {P : World → Prop} (w : World) (Q : World → Prop) (hq : Q w) (h : ∀ w', Q w' → P w') : P w := h w hq
def feed_Order.at (m : List (Int × List Int)) (s : Int) : List Int × Int := match m.find? (fun p => p.1 == s) with | some p => (p.2, 0) | none => ([], 5)
def feed_Order.f (k : Nat) (a0_0 : Int) (l0_1 : List S47) (l0_2 : List S49) (a1 a2 : Int) (l3 : List Int) : Option (List Int × Int) :=
 (feed_ruled.f k a0_0 l0_1 l0_2 a1 l3).bind fun b => if b.2 = 0 then ((feed_grid_all.f b.1 l0_1 l0_2).bind fun t => (feed_within.f 0 a2 (wrap64 (t - 1))).bind fun c => if c = true then (if feed_rule_reach.wf a2 then ((feed_rule_reach.f k b.1 l0_1 l0_2 l3 a1).bind fun m => some (feed_Order.at m a2)) else none) else some ([], 51)) else some ([], b.2)
theorem feed_Order.has (m : List (Int × List Int)) (s : Int) : (hasKey m s = true ∧ ∃ p, p ∈ m ∧ p.1 = s ∧ feed_Order.at m s = (p.2, 0)) ∨ (hasKey m s = false ∧ feed_Order.at m s = ([], 5)) := by
 cases hf : m.find? (fun p => p.1 == s) with
 | some p =>
  refine .inl ⟨List.any_eq_true.2 ⟨p, List.mem_of_find?_eq_some hf, ?_⟩, p, List.mem_of_find?_eq_some hf, ?_, ?_⟩
  ·
   exact List.find?_some (p := fun (p : Int × List Int) => p.1 == s) hf
  ·
   have := List.find?_some (p := fun (p : Int × List Int) => p.1 == s) hf; simpa using this
  ·
   unfold feed_Order.at; rw [hf]
 | none =>
  refine .inr ⟨List.any_eq_false.2 (fun p hp => ?_), by unfold feed_Order.at; rw [hf]⟩
  have := List.find?_eq_none.1 hf p hp
  simpa using this
set_option maxHeartbeats 8000000 in
set_option maxRecDepth 100000 in
theorem feed_Order.calls (k : Nat) (a0_0 : Int) (A0_1 : Option Addr) (c0_1 : Nat) (l0_1 : List S47) (A0_2 : Option Addr) (c0_2 : Nat) (l0_2 : List S49) (a1 : Int) (a2 : Int) (A3 : Option Addr) (c3 : Nat) (l3 : List Int) (r1 : List Int) (r2 : Int) (w : World) (hr0_1 : Kd.C k47 w A0_1 l0_1.length l0_1) (hc0_1 : l0_1.length ≤ c0_1) (hr0_2 : Kd.C k49 w A0_2 l0_2.length l0_2) (hc0_2 : l0_2.length ≤ c0_2) (hr3 : Kd.C (Kd.int .i64) w A3 l3.length l3) (hc3 : l3.length ≤ c3) (hT : Tab.Tabs w) (h : feed_Order.f k a0_0 l0_1 l0_2 a1 a2 l3 = some (r1, r2)) :
  Calls Tryd.prog 10 #[.agg #[.int .i64 a0_0, .slice A0_1 l0_1.length c0_1, .slice A0_2 l0_2.length c0_2], .int .i64 a1, .int .i64 a2, .slice A3 l3.length c3] w fun e w' => ∃ v0_ : Value, e = .returned (.tuple #[v0_, .int .i64 r2]) ∧ Kd.R (Kd.int .i64) 3 w' w.heap.size (fun _ => True) v0_ r1 ∧ Below w.heap.size w w' := by
 have HT := Aside0.mk hT
 have hu1 := Tryd.underlying25
 have hu2 := Tryd.underlying54
 have hu3 := Tryd.underlying56
 have HR0_1 := Aside0.mk hr0_1
 have HR0_2 := Aside0.mk hr0_2
 have HC0_1 := Aside0.mk hc0_1
 have HC0_2 := Aside0.mk hc0_2
 have HR3 := Aside0.mk hr3
 have HC3 := Aside0.mk hc3
 have HB := Aside0.mk (Below.refl w.heap.size w)
 clear hr0_1 hr0_2 hr3 hT hc0_1 hc0_2 hc3
 unfold feed_Order.f at h
 obtain ⟨⟨tn, te⟩, A50, H0⟩ := Option.bind_eq_some_iff.mp h
 have A5 := Aside0.mk A50
 have H := Aside0.mk H0
 clear h A50 H0
 go_enter Tryd.func10, Tryd.ntmps10
 go_upto_region 2 with (first | ((with_reducible refine gate_dst (N := 4) rfl ?_); refine box_event ?hg (N := 4) ?hd (cs := #[.int .i64 a0_0, .slice A0_1 l0_1.length c0_1, .slice A0_2 l0_2.length c0_2]) (t := 25) ?hr ?_; (case hd => rfl); (case hg => rfl); (case hr => first | (go_simp; done) | (go_simp; rfl)); intro g1 hg wx hbox hb; have BKg1 := Aside0.mk (hbox); have GWg1 := bsz (w := w) hg; replace HB := Aside0.mk (below_step bel hb); clear hb hbox hg; have kg1_0 := blkc BKg1.out 0 (.int .i64 a0_0) rfl; have kg1_1 := blkc BKg1.out 1 (.slice A0_1 l0_1.length c0_1) rfl; have kg1_2 := blkc BKg1.out 2 (.slice A0_2 l0_2.length c0_2) rfl) | ((with_reducible refine gate_callee (f := 22) rfl ?_); refine goesL_ (some 18) rfl rfl Tryd.func22 (by kernel_rfl) rfl #[.agg #[.int .i64 a0_0, .slice A0_1 l0_1.length c0_1, .slice A0_2 l0_2.length c0_2], .int .i64 a1, .slice A3 l3.length c3] rfl mapz ?_; (with_reducible refine (feed_ruled.calls k a0_0 _ _ l0_1 _ _ l0_2 a1 _ _ l3 tn te _ ?side1 ?side2 ?side3 ?side4 ?side5 ?side6 ?sideT A5.out).mono ?_); (case sideT => first | exact HT.out | exact Tab.Tabs.below HT.out bel); (case side1 => exact cbz HR0_1); (case side2 => exact HC0_1.out); (case side3 => exact cbz HR0_2); (case side4 => exact HC0_2.out); (case side5 => exact cbz HR3); (case side6 => exact HC3.out); rintro e wy ⟨rfl, hb⟩; refine ⟨_, rfl, ?_⟩; replace BKg1 := Aside0.mk (blk_below (g := g1) blkz hb); replace HB := Aside0.mk (below_step bel hb); (try clear hb)) | ((with_reducible refine gate_dst (N := 10) rfl ?_); refine box_event ?hg (N := 10) ?hd (cs := #[.int .i64 0, .slice none 0 0, .slice none 0 0, .slice none 0 0]) (t := 56) ?hr ?_; (case hd => rfl); (case hg => rfl); (case hr => first | (go_simp; done) | (go_simp; rfl)); intro g2 hg wx hbox hb; have BKg2 := Aside0.mk (hbox); have GWg2 := bsz (w := w) hg; have NB12 := neL (g := g1) hg; have NB21 := neR (g := g1) hg; replace BKg1 := Aside0.mk (blk_below (g := g1) blkz hb); replace HB := Aside0.mk (below_step bel hb); clear hb hbox hg; have hnb1 := NB21.out; have hnb2 := NB12.out; have kg2_0 := blkc BKg2.out 0 (.int .i64 0) rfl; have fg2_0 := blk_frozen BKg2.out 0; have kg2_1 := blkc BKg2.out 1 (.slice none 0 0) rfl; have fg2_1 := blk_frozen BKg2.out 1; have kg2_2 := blkc BKg2.out 2 (.slice none 0 0) rfl; have fg2_2 := blk_frozen BKg2.out 2; have kg2_3 := blkc BKg2.out 3 (.slice none 0 0) rfl; have fg2_3 := blk_frozen BKg2.out 3))
 (try simp only [Act.put, List.setIfInBounds_toArray, List.set_cons_zero, List.set_cons_succ])
 refine feed_Order.hold (P := fun W => Code.wp _ _ _ _ W) _ (fun W => Aside0 (W.heap[g1]? = some (.cells #[.int .i64 a0_0, .slice A0_1 l0_1.length c0_1, .slice A0_2 l0_2.length c0_2] 25 (0, 0))) ∧ Aside0 (W.heap[g2]? = some (.cells #[.int .i64 tn, .slice A0_1 l0_1.length c0_1, .slice A0_2 l0_2.length c0_2, .slice A3 l3.length c3] 56 (0, 0))) ∧ Aside0 (Below w.heap.size w W)) ⟨⟨(by (with_reducible repeat (first | refine blk_drewN ?_ _ | refine blk_drew ?_ | refine blk_alloc ?_ _)); refine blk_far ?_ NB12.out _; (with_reducible repeat (first | refine blk_drewN ?_ _ | refine blk_drew ?_ | refine blk_alloc ?_ _)); refine blk_far ?_ NB12.out _; (with_reducible repeat (first | refine blk_drewN ?_ _ | refine blk_drew ?_ | refine blk_alloc ?_ _)); refine blk_far ?_ NB12.out _; (with_reducible repeat (first | refine blk_drewN ?_ _ | refine blk_drew ?_ | refine blk_alloc ?_ _)); refine blk_far ?_ NB12.out _; (with_reducible repeat (first | refine blk_drewN ?_ _ | refine blk_drew ?_ | refine blk_alloc ?_ _)); exact BKg1.out)⟩, ⟨(by (with_reducible repeat (first | refine blk_drewN ?_ _ | refine blk_drew ?_ | refine blk_alloc ?_ _)); refine blk_put (cs := #[.int .i64 tn, .slice A0_1 l0_1.length c0_1, .slice A0_2 l0_2.length c0_2, .slice none 0 0]) ?_ 3 _ rfl; (with_reducible repeat (first | refine blk_drewN ?_ _ | refine blk_drew ?_ | refine blk_alloc ?_ _)); refine blk_put (cs := #[.int .i64 tn, .slice A0_1 l0_1.length c0_1, .slice none 0 0, .slice none 0 0]) ?_ 2 _ rfl; (with_reducible repeat (first | refine blk_drewN ?_ _ | refine blk_drew ?_ | refine blk_alloc ?_ _)); refine blk_put (cs := #[.int .i64 tn, .slice none 0 0, .slice none 0 0, .slice none 0 0]) ?_ 1 _ rfl; (with_reducible repeat (first | refine blk_drewN ?_ _ | refine blk_drew ?_ | refine blk_alloc ?_ _)); refine blk_put (cs := #[.int .i64 0, .slice none 0 0, .slice none 0 0, .slice none 0 0]) ?_ 0 _ rfl; (with_reducible repeat (first | refine blk_drewN ?_ _ | refine blk_drew ?_ | refine blk_alloc ?_ _)); exact BKg2.out)⟩, ⟨bel⟩⟩ ?_
 clear BKg1 BKg2 HB
 rintro W ⟨BKg1, BKg2, HB⟩
 have hge := GWg2.out
 clear kg1_0 kg1_1 kg1_2 kg2_0 fg2_0 kg2_1 fg2_1 kg2_2 fg2_2 kg2_3 fg2_3 hnb1 hnb2
 have H := H.out
 by_cases c1 : te = 0
 ·
  rw [if_pos c1] at H
  have b0 : (te != 0) = false := bne_eq_false_iff_eq.mpr c1
  clear c1
  obtain ⟨ta, A60, H⟩ := Option.bind_eq_some_iff.mp H
  obtain ⟨tc, A70, H⟩ := Option.bind_eq_some_iff.mp H
  have A6 := Aside0.mk A60
  have A7 := Aside0.mk A70
  clear A60 A70
  have k0 := blkc BKg2.out 0 (.int .i64 tn) rfl
  have f0 := blk_frozen BKg2.out 0
  have k1 := blkc BKg2.out 1 (.slice A0_1 l0_1.length c0_1) rfl
  have f1 := blk_frozen BKg2.out 1
  have k2 := blkc BKg2.out 2 (.slice A0_2 l0_2.length c0_2) rfl
  have f2 := blk_frozen BKg2.out 2
  have k3 := blkc BKg2.out 3 (.slice A3 l3.length c3) rfl
  have f3 := blk_frozen BKg2.out 3
  cases tc with
  | true =>
   rw [if_pos rfl] at H
   by_cases hw : ¬ feed_rule_reach.wf a2
   ·
    rw [if_neg hw] at H; cases H
   replace hw := Decidable.not_not.1 hw
   rw [if_pos hw] at H
   obtain ⟨m, A80, H⟩ := Option.bind_eq_some_iff.mp H
   have A8 := Aside0.mk A80
   have HW := Aside0.mk hw
   have H1 := Option.some.inj H
   clear A80 hw H
   rcases feed_Order.has m a2 with ⟨hk, p, hp, hp2, he⟩ | ⟨hk, he⟩
   ·
    have HK := Aside0.mk hk
    rw [he] at H1
    cases H1
    have HP := Aside0.mk (And.intro hp hp2)
    clear hk hp hp2 he
    go_wp2_with (first | ((with_reducible refine gate_callee (f := 26) rfl ?_); refine goesL_ (some 29) rfl rfl Tryd.func26 (by kernel_rfl) rfl #[.agg #[.int .i64 tn, .slice A0_1 l0_1.length c0_1, .slice A0_2 l0_2.length c0_2]] rfl mapz ?_; (with_reducible refine (feed_grid_all.calls tn _ _ l0_1 _ _ l0_2 ta _ ?side1 ?side2 ?side3 ?side4 A6.out).mono ?_); (case side1 => exact cbz HR0_1); (case side2 => exact HC0_1.out); (case side3 => exact cbz HR0_2); (case side4 => exact HC0_2.out); rintro e wz ⟨rfl, hb⟩; refine ⟨_, rfl, ?_⟩; replace BKg2 := Aside0.mk (blk_below (g := g2) blkz hb); replace HB := Aside0.mk (below_step bel hb); (try clear hb)) | ((with_reducible refine gate_callee (f := 25) rfl ?_); refine goesL_ (some 31) rfl rfl Tryd.func25 (by kernel_rfl) rfl #[.int .i64 0, .int .i64 a2, .int .i64 (wrap64 (ta - 1))] rfl mapz ?_; (with_reducible refine (feed_within.calls 0 a2 (wrap64 (ta - 1)) _ _ A7.out).mono ?_); rintro e w' ⟨rfl, ⟨nd, rfl⟩⟩; refine ⟨_, rfl, ?_⟩; (try (rw [drewN_self wz]; generalize hq_ : World.drewN wz _ = wz; have n1_ : Aside0 (wz.heap[g2]? = some (.cells #[.int .i64 tn, .slice A0_1 l0_1.length c0_1, .slice A0_2 l0_2.length c0_2, .slice A3 l3.length c3] 56 (0, 0))) := ⟨by rw [← hq_]; exact blkz⟩; have n3_ : Aside0 (Below w.heap.size w wz) := ⟨by rw [← hq_]; exact bel⟩; clear BKg2 HB hq_; have BKg2 := n1_; have HB := n3_; clear n1_ n3_)); clear k0 k1 k2 k3 f0 f1 f2 f3; have k0 := blkc BKg2.out 0 (.int .i64 tn) rfl; have f0 := blk_frozen BKg2.out 0; have k1 := blkc BKg2.out 1 (.slice A0_1 l0_1.length c0_1) rfl; have f1 := blk_frozen BKg2.out 1; have k2 := blkc BKg2.out 2 (.slice A0_2 l0_2.length c0_2) rfl; have f2 := blk_frozen BKg2.out 2; have k3 := blkc BKg2.out 3 (.slice A3 l3.length c3) rfl; have f3 := blk_frozen BKg2.out 3) | ((with_reducible refine gate_callee (f := 23) rfl ?_); refine goesL_ (some 36) rfl rfl Tryd.func23 (by kernel_rfl) rfl #[.agg #[.int .i64 tn, .slice A0_1 l0_1.length c0_1, .slice A0_2 l0_2.length c0_2, .slice A3 l3.length c3], .int .i64 a1] rfl mapz ?_; (with_reducible refine (feed_rule_reach.calls k tn _ _ l0_1 _ _ l0_2 _ _ l3 a1 m _ ?side1 ?side2 ?side3 ?side4 ?side5 ?side6 ?sideT A8.out).mono ?_); (case sideT => first | exact HT.out | exact Tab.Tabs.below HT.out bel); (case side1 => exact cbz HR0_1); (case side2 => exact HC0_1.out); (case side3 => exact cbz HR0_2); (case side4 => exact HC0_2.out); (case side5 => exact cbz HR3); (case side6 => exact HC3.out); rintro e wz ⟨b, S, rfl, hm, hwf, hb⟩; refine ⟨_, rfl, ?_⟩; obtain ⟨v0, hrun, hnil, hfound⟩ := hm.look_ok Tryd.underlying59 Tryd.underlying3 (by kernel_rfl) (feed_rule_reach.wf_lit HW.out); rw [HK.out] at hrun; have HF := Aside0.mk hfound; have HBS := Aside0.mk (below_size HB.out); replace HB := Aside0.mk (below_step bel hb); clear hm hwf hb hfound hnil))
    go_ret2
    exact ⟨_, rfl, Kd.R_lower (feed_rule_reach.R_ok (HF.out p.2 (by rw [← HP.out.2]; exact HP.out.1)) (fun _ _ _ _ _ => trivial)) HBS.out, bel⟩
   ·
    have HK := Aside0.mk hk
    rw [he] at H1
    cases H1
    clear hk he
    go_wp2_with (first | ((with_reducible refine gate_callee (f := 26) rfl ?_); refine goesL_ (some 29) rfl rfl Tryd.func26 (by kernel_rfl) rfl #[.agg #[.int .i64 tn, .slice A0_1 l0_1.length c0_1, .slice A0_2 l0_2.length c0_2]] rfl mapz ?_; (with_reducible refine (feed_grid_all.calls tn _ _ l0_1 _ _ l0_2 ta _ ?side1 ?side2 ?side3 ?side4 A6.out).mono ?_); (case side1 => exact cbz HR0_1); (case side2 => exact HC0_1.out); (case side3 => exact cbz HR0_2); (case side4 => exact HC0_2.out); rintro e wz ⟨rfl, hb⟩; refine ⟨_, rfl, ?_⟩; replace BKg2 := Aside0.mk (blk_below (g := g2) blkz hb); replace HB := Aside0.mk (below_step bel hb); (try clear hb)) | ((with_reducible refine gate_callee (f := 25) rfl ?_); refine goesL_ (some 31) rfl rfl Tryd.func25 (by kernel_rfl) rfl #[.int .i64 0, .int .i64 a2, .int .i64 (wrap64 (ta - 1))] rfl mapz ?_; (with_reducible refine (feed_within.calls 0 a2 (wrap64 (ta - 1)) _ _ A7.out).mono ?_); rintro e w' ⟨rfl, ⟨nd, rfl⟩⟩; refine ⟨_, rfl, ?_⟩; (try (rw [drewN_self wz]; generalize hq_ : World.drewN wz _ = wz; have n1_ : Aside0 (wz.heap[g2]? = some (.cells #[.int .i64 tn, .slice A0_1 l0_1.length c0_1, .slice A0_2 l0_2.length c0_2, .slice A3 l3.length c3] 56 (0, 0))) := ⟨by rw [← hq_]; exact blkz⟩; have n3_ : Aside0 (Below w.heap.size w wz) := ⟨by rw [← hq_]; exact bel⟩; clear BKg2 HB hq_; have BKg2 := n1_; have HB := n3_; clear n1_ n3_)); clear k0 k1 k2 k3 f0 f1 f2 f3; have k0 := blkc BKg2.out 0 (.int .i64 tn) rfl; have f0 := blk_frozen BKg2.out 0; have k1 := blkc BKg2.out 1 (.slice A0_1 l0_1.length c0_1) rfl; have f1 := blk_frozen BKg2.out 1; have k2 := blkc BKg2.out 2 (.slice A0_2 l0_2.length c0_2) rfl; have f2 := blk_frozen BKg2.out 2; have k3 := blkc BKg2.out 3 (.slice A3 l3.length c3) rfl; have f3 := blk_frozen BKg2.out 3) | ((with_reducible refine gate_callee (f := 23) rfl ?_); refine goesL_ (some 36) rfl rfl Tryd.func23 (by kernel_rfl) rfl #[.agg #[.int .i64 tn, .slice A0_1 l0_1.length c0_1, .slice A0_2 l0_2.length c0_2, .slice A3 l3.length c3], .int .i64 a1] rfl mapz ?_; (with_reducible refine (feed_rule_reach.calls k tn _ _ l0_1 _ _ l0_2 _ _ l3 a1 m _ ?side1 ?side2 ?side3 ?side4 ?side5 ?side6 ?sideT A8.out).mono ?_); (case sideT => first | exact HT.out | exact Tab.Tabs.below HT.out bel); (case side1 => exact cbz HR0_1); (case side2 => exact HC0_1.out); (case side3 => exact cbz HR0_2); (case side4 => exact HC0_2.out); (case side5 => exact cbz HR3); (case side6 => exact HC3.out); rintro e wz ⟨b, S, rfl, hm, hwf, hb⟩; refine ⟨_, rfl, ?_⟩; obtain ⟨v0, hrun, hnil, hfound⟩ := hm.look_ok Tryd.underlying59 Tryd.underlying3 (by kernel_rfl) (feed_rule_reach.wf_lit HW.out); rw [HK.out] at hrun; have HF := Aside0.mk hfound; have HBS := Aside0.mk (below_size HB.out); replace HB := Aside0.mk (below_step bel hb); clear hm hwf hb hfound hnil))
    go_ret2
    exact ⟨_, rfl, Kd.R_nil _ _ _ _ _, bel⟩
  | false =>
   rw [if_neg (by decide)] at H
   cases H
   go_wp2_with (first | ((with_reducible refine gate_callee (f := 26) rfl ?_); refine goesL_ (some 29) rfl rfl Tryd.func26 (by kernel_rfl) rfl #[.agg #[.int .i64 tn, .slice A0_1 l0_1.length c0_1, .slice A0_2 l0_2.length c0_2]] rfl mapz ?_; (with_reducible refine (feed_grid_all.calls tn _ _ l0_1 _ _ l0_2 ta _ ?side1 ?side2 ?side3 ?side4 A6.out).mono ?_); (case side1 => exact cbz HR0_1); (case side2 => exact HC0_1.out); (case side3 => exact cbz HR0_2); (case side4 => exact HC0_2.out); rintro e wz ⟨rfl, hb⟩; refine ⟨_, rfl, ?_⟩; replace BKg2 := Aside0.mk (blk_below (g := g2) blkz hb); replace HB := Aside0.mk (below_step bel hb); (try clear hb)) | ((with_reducible refine gate_callee (f := 25) rfl ?_); refine goesL_ (some 31) rfl rfl Tryd.func25 (by kernel_rfl) rfl #[.int .i64 0, .int .i64 a2, .int .i64 (wrap64 (ta - 1))] rfl mapz ?_; (with_reducible refine (feed_within.calls 0 a2 (wrap64 (ta - 1)) _ _ A7.out).mono ?_); rintro e w' ⟨rfl, ⟨nd, rfl⟩⟩; refine ⟨_, rfl, ?_⟩; (try (rw [drewN_self wz]; generalize hq_ : World.drewN wz _ = wz; have n1_ : Aside0 (wz.heap[g2]? = some (.cells #[.int .i64 tn, .slice A0_1 l0_1.length c0_1, .slice A0_2 l0_2.length c0_2, .slice A3 l3.length c3] 56 (0, 0))) := ⟨by rw [← hq_]; exact blkz⟩; have n3_ : Aside0 (Below w.heap.size w wz) := ⟨by rw [← hq_]; exact bel⟩; clear BKg2 HB hq_; have BKg2 := n1_; have HB := n3_; clear n1_ n3_)); clear k0 k1 k2 k3 f0 f1 f2 f3; have k0 := blkc BKg2.out 0 (.int .i64 tn) rfl; have f0 := blk_frozen BKg2.out 0; have k1 := blkc BKg2.out 1 (.slice A0_1 l0_1.length c0_1) rfl; have f1 := blk_frozen BKg2.out 1; have k2 := blkc BKg2.out 2 (.slice A0_2 l0_2.length c0_2) rfl; have f2 := blk_frozen BKg2.out 2; have k3 := blkc BKg2.out 3 (.slice A3 l3.length c3) rfl; have f3 := blk_frozen BKg2.out 3))
   go_ret2
   exact ⟨_, rfl, Kd.R_nil _ _ _ _ _, bel⟩
 ·
  rw [if_neg c1] at H
  have b0 : (te != 0) = true := bne_iff_ne.mpr c1
  clear c1
  cases H
  go_wp2
  go_ret2
  exact ⟨_, rfl, Kd.R_nil _ _ _ _ _, bel⟩

/-! ### feed_IsShut: function 11 -/
theorem feed_IsShut.hold {P : World → Prop} (w : World) (Q : World → Prop) (hq : Q w) (h : ∀ w', Q w' → P w') : P w := h w hq
theorem feed_IsShut.index_l0 (l : List Int) (hl : l.length ≤ 9223372036854775807) (v : Int) : ∀ (d i : Nat), i + d = l.length → (∀ j (h : j < l.length), j < i → l[j] ≠ v) →
  ∃ (r : Int) (K : Nat), slices_Index_int_int.l0 K l v (l.length : Int) (i : Int) = some r ∧ (0 ≤ r ↔ v ∈ l) := by
 intro d
 induction d with
 | zero =>
  intro i hi hb
  refine ⟨-1, 1, ?_, ?_⟩
  ·
   rw [slices_Index_int_int.l0, if_neg (by omega)]
  ·
   constructor
   ·
    intro h; omega
   ·
    intro h
    obtain ⟨j, hj, e⟩ := List.mem_iff_getElem.1 h
    exact absurd e (hb j hj (by omega))
 | succ d ih =>
  intro i hi hb
  have hlt : i < l.length := by omega
  have hr : rd l (i : Int) = l[i] := by simp [rd, List.getD_eq_getElem?_getD, hlt]
  by_cases he : v = l[i]
  ·
   refine ⟨i, 1, ?_, fun _ => he ▸ List.getElem_mem hlt, fun _ => by omega⟩
   rw [slices_Index_int_int.l0, hr, if_pos (by omega), if_pos (by omega), if_pos (by omega), if_pos he]
  ·
   obtain ⟨r, K, h1, h2⟩ := ih (i + 1) (by omega) (fun j hj hji => by
    by_cases h : j < i
    ·
     exact hb j hj h
    ·
     obtain rfl : j = i := by omega
     exact fun e => he e.symm)
   refine ⟨r, K + 1, ?_, h2⟩
   have hw : wrap64 ((i : Int) + 1) = ((i + 1 : Nat) : Int) := by unfold wrap64; omega
   rw [slices_Index_int_int.l0, hr, hw, if_pos (by omega), if_pos (by omega), if_pos (by omega), if_neg he, h1]
theorem feed_IsShut.contains (l : List Int) (hl : l.length ≤ 9223372036854775807) (v : Int) : ∃ K, slices_Contains_int_int.f K l v = some (decide (v ∈ l)) := by
 obtain ⟨r, K, h1, h2⟩ := feed_IsShut.index_l0 l hl v l.length 0 (by omega) (fun j h hj => by omega)
 refine ⟨K, ?_⟩
 unfold slices_Contains_int_int.f slices_Index_int_int.f
 have h3 : slices_Index_int_int.l0 K l v (l.length : Int) 0 = some r := h1
 rw [h3]
 show some _ = some _
 congr 1
 rw [decide_eq_decide]
 exact h2
def feed_IsShut.p (l : List Int) (x : Int) : Bool := decide (0 ≤ x) && !decide (x ∈ l)
set_option maxHeartbeats 2000000 in
set_option maxRecDepth 100000 in
theorem feed_IsShut.clos (l : List Int) (g : Nat) (A : Option Addr) (c : Nat) (x : Int) (w : World) (hcap : w.cell? ⟨g, 0, none⟩ = some (.slice A l.length c)) (hC : Kd.C (Kd.int .i64) w A l.length l) (hc : l.length ≤ c) :
  Calls Tryd.prog 32 #[.int .i64 x, .pointer (some ⟨g, 0, none⟩)] w fun e w' => e = .returned (.bool (feed_IsShut.p l x)) ∧ Below w.heap.size w w' := by
 obtain ⟨K, hK⟩ := feed_IsShut.contains l hC.2.1 x
 have HK := Aside0.mk hK
 have HC := Aside0.mk hC
 clear hK hC
 by_cases h0 : 0 ≤ x
 ·
  have b0 : decide (x ≥ 0) = true := decide_eq_true h0
  have hE : feed_IsShut.p l x = !decide (x ∈ l) := by unfold feed_IsShut.p; rw [decide_eq_true h0, Bool.true_and]
  rw [hE]
  clear h0 hE
  go_enter Tryd.func32, Tryd.ntmps32
  go_wp2_with (first | (go_at_call 33; (with_reducible refine (slices_Contains_int_int.calls K A c l x _ _ ?c1 hc HK.out).mono ?_); (case c1 => exact HC.out); rintro e w' ⟨rfl, ⟨nd_, rfl⟩⟩))
  go_ret
  exact ⟨rfl, by repeat (first | exact Below.refl _ _ | apply pw_below_drewN)⟩
 ·
  have b0 : decide (x ≥ 0) = false := decide_eq_false h0
  have hE : feed_IsShut.p l x = false := by unfold feed_IsShut.p; rw [decide_eq_false h0, Bool.false_and]
  rw [hE]
  clear h0 hE
  go_enter Tryd.func32, Tryd.ntmps32
  go_wp2
  go_ret
  exact ⟨rfl, by repeat (first | exact Below.refl _ _ | apply pw_below_drewN)⟩
theorem feed_IsShut.enter (vs : Array Value) (W : World) : (callFunc 32 vs).run Tryd.prog W = .ok (.enter 32 vs) W := enters_ Tryd.func32 (by kernel_rfl) (by kernel_rfl) vs W
def feed_IsShut.before (p : Option Int) (s : Int) : Bool := match p with | none => false | some q => decide (s ≤ q)
def feed_IsShut.go1 (k : Nat) (a0_0 : Int) (l0_1 : List S47) (l0_2 : List S49) (l3 : List Int) (ta : Int) : Option Int → List Int → Option Bool
 | _, [] => some true
 | p, s :: t => (feed_within.f 0 s (wrap64 (ta - 1))).bind fun c => if c = true then (if feed_IsShut.before p s = true then some false else ((feed_rule_keeps.f k a0_0 l0_1 l0_2 l3 s).bind fun b => if b = true then feed_IsShut.go1 k a0_0 l0_1 l0_2 l3 ta (some s) t else some false)) else some false
def feed_IsShut.go2 (k : Nat) (a0_0 : Int) (l0_1 : List S47) (l0_2 : List S49) (l3 l4 : List Int) : List Int → Option Bool
 | [] => some true
 | s :: t => (feed_rule_steps.f k a0_0 l0_1 l0_2 l3 s).bind fun st => if st.any (feed_IsShut.p l4) = true then some false else feed_IsShut.go2 k a0_0 l0_1 l0_2 l3 l4 t
def feed_IsShut.f (k : Nat) (a0_0 : Int) (l0_1 : List S47) (l0_2 : List S49) (l3 l4 : List Int) : Option (Bool × Int) :=
 (feed_Valid.f a0_0 l0_1 l0_2).bind fun v => if v = true then ((feed_rule_kept.f k a0_0 l0_1 l0_2 l3).bind fun e => if e = 0 then ((feed_grid_all.f a0_0 l0_1 l0_2).bind fun ta => (feed_IsShut.go1 k a0_0 l0_1 l0_2 l3 ta none l4).bind fun ok => if ok = true then ((feed_IsShut.go2 k a0_0 l0_1 l0_2 l3 l4 l4).bind fun b => some (b, 0)) else some (false, 0)) else some (false, e)) else some (false, 50)
def feed_IsShut.prev (l : List Int) (x : Int) : Option Int := if 0 < x then some (rd l (x - 1)) else none
set_option maxHeartbeats 16000000 in
set_option maxRecDepth 100000 in
theorem feed_IsShut.calls (k : Nat) (a0_0 : Int) (A0_1 : Option Addr) (c0_1 : Nat) (l0_1 : List S47) (A0_2 : Option Addr) (c0_2 : Nat) (l0_2 : List S49) (A3 : Option Addr) (c3 : Nat) (l3 : List Int) (A4 : Option Addr) (c4 : Nat) (l4 : List Int) (r1 : Bool) (r2 : Int) (w : World) (hr0_1 : Kd.C k47 w A0_1 l0_1.length l0_1) (hc0_1 : l0_1.length ≤ c0_1) (hr0_2 : Kd.C k49 w A0_2 l0_2.length l0_2) (hc0_2 : l0_2.length ≤ c0_2) (hr3 : Kd.C (Kd.int .i64) w A3 l3.length l3) (hc3 : l3.length ≤ c3) (hr4 : Kd.C (Kd.int .i64) w A4 l4.length l4) (hc4 : l4.length ≤ c4) (hT : Tab.Tabs w) (h : feed_IsShut.f k a0_0 l0_1 l0_2 l3 l4 = some (r1, r2)) :
  Calls Tryd.prog 11 #[.agg #[.int .i64 a0_0, .slice A0_1 l0_1.length c0_1, .slice A0_2 l0_2.length c0_2], .slice A3 l3.length c3, .slice A4 l4.length c4] w fun e w' => e = .returned (.tuple #[.bool r1, .int .i64 r2]) ∧ Below w.heap.size w w' := by
 have HT := Aside0.mk hT
 have hu1 := Tryd.underlying25
 have hu2 := Tryd.underlying54
 have hu3 := Tryd.underlying56
 have HR0_1 := Aside0.mk hr0_1
 have HR0_2 := Aside0.mk hr0_2
 have HC0_1 := Aside0.mk hc0_1
 have HC0_2 := Aside0.mk hc0_2
 have HR3 := Aside0.mk hr3
 have HC3 := Aside0.mk hc3
 have HR4 := Aside0.mk hr4
 have HC4 := Aside0.mk hc4
 have HL4 := Aside0.mk hr4.2.1
 have HB := Aside0.mk (Below.refl w.heap.size w)
 clear hr0_1 hr0_2 hr3 hr4 hT hc0_1 hc0_2 hc3 hc4
 unfold feed_IsShut.f at h
 obtain ⟨v, A10, H⟩ := Option.bind_eq_some_iff.mp h
 have E1 := Aside0.mk A10
 clear h A10
 have HH := Aside0.mk H
 clear H
 go_enter Tryd.func11, Tryd.ntmps11
 go_upto_region 2 with (first | ((with_reducible refine gate_dst (N := 3) rfl ?_); refine box_event ?hg (N := 3) ?hd (cs := #[.int .i64 a0_0, .slice A0_1 l0_1.length c0_1, .slice A0_2 l0_2.length c0_2]) (t := 25) ?hr ?_; (case hd => rfl); (case hg => rfl); (case hr => first | (go_simp; done) | (go_simp; rfl)); intro g1 hg wx hbox hb; have BKg1 := Aside0.mk (hbox); have GWg1 := bsz (w := w) hg; replace HB := Aside0.mk (below_step bel hb); clear hb hbox hg) | ((with_reducible refine gate_dst (N := 5) rfl ?_); refine box_event ?hg (N := 5) ?hd (cs := #[.slice A4 l4.length c4]) (t := 26) ?hr ?_; (case hd => rfl); (case hg => rfl); (case hr => first | (go_simp; done) | (go_simp; rfl)); intro g5 hg wx hbox hb; have BKg5 := Aside0.mk (hbox); have GWg5 := bsz (w := w) hg; have NB15 := neL (g := g1) hg; have NB51 := neR (g := g1) hg; replace BKg1 := Aside0.mk (blk_below (g := g1) blkz hb); replace HB := Aside0.mk (below_step bel hb); clear hb hbox hg; have hnb1 := NB51.out; have hnb2 := NB15.out; have kg1_0 := blkc BKg1.out 0 (.int .i64 a0_0) rfl; have kg1_1 := blkc BKg1.out 1 (.slice A0_1 l0_1.length c0_1) rfl; have kg1_2 := blkc BKg1.out 2 (.slice A0_2 l0_2.length c0_2) rfl) | ((with_reducible refine gate_dst (N := 8) rfl ?_); refine box_event ?hg (N := 8) ?hd (cs := #[.int .i64 0, .slice none 0 0, .slice none 0 0, .slice none 0 0]) (t := 56) ?hr ?_; (case hd => rfl); (case hg => rfl); (case hr => first | (go_simp; done) | (go_simp; rfl)); intro g2 hg wx hbox hb; have BKg2 := Aside0.mk (hbox); have GWg2 := bsz (w := w) hg; have NB12 := neL (g := g1) hg; have NB21 := neR (g := g1) hg; have NB52 := neL (g := g5) hg; have NB25 := neR (g := g5) hg; replace BKg1 := Aside0.mk (blk_below (g := g1) blkz hb); replace BKg5 := Aside0.mk (blk_below (g := g5) blkz hb); replace HB := Aside0.mk (below_step bel hb); clear hb hbox hg; have hnb3 := NB21.out; have hnb4 := NB12.out; have hnb5 := NB25.out; have hnb6 := NB52.out; have kg2_0 := blkc BKg2.out 0 (.int .i64 0) rfl; have fg2_0 := blk_frozen BKg2.out 0; have kg2_1 := blkc BKg2.out 1 (.slice none 0 0) rfl; have fg2_1 := blk_frozen BKg2.out 1; have kg2_2 := blkc BKg2.out 2 (.slice none 0 0) rfl; have fg2_2 := blk_frozen BKg2.out 2; have kg2_3 := blkc BKg2.out 3 (.slice none 0 0) rfl; have fg2_3 := blk_frozen BKg2.out 3))
 (try simp only [Act.put, List.setIfInBounds_toArray, List.set_cons_zero, List.set_cons_succ])
 refine feed_IsShut.hold (P := fun W => Code.wp _ _ _ _ W) _ (fun W => Aside0 (W.heap[g1]? = some (.cells #[.int .i64 a0_0, .slice A0_1 l0_1.length c0_1, .slice A0_2 l0_2.length c0_2] 25 (0, 0))) ∧ Aside0 (W.heap[g5]? = some (.cells #[.slice A4 l4.length c4] 26 (0, 0))) ∧ Aside0 (W.heap[g2]? = some (.cells #[.int .i64 a0_0, .slice A0_1 l0_1.length c0_1, .slice A0_2 l0_2.length c0_2, .slice A3 l3.length c3] 56 (0, 0))) ∧ Aside0 (Below w.heap.size w W)) ⟨⟨(by (with_reducible repeat (first | refine blk_drewN ?_ _ | refine blk_drew ?_ | refine blk_alloc ?_ _)); refine blk_far ?_ NB12.out _; (with_reducible repeat (first | refine blk_drewN ?_ _ | refine blk_drew ?_ | refine blk_alloc ?_ _)); refine blk_far ?_ NB12.out _; (with_reducible repeat (first | refine blk_drewN ?_ _ | refine blk_drew ?_ | refine blk_alloc ?_ _)); refine blk_far ?_ NB12.out _; (with_reducible repeat (first | refine blk_drewN ?_ _ | refine blk_drew ?_ | refine blk_alloc ?_ _)); refine blk_far ?_ NB12.out _; (with_reducible repeat (first | refine blk_drewN ?_ _ | refine blk_drew ?_ | refine blk_alloc ?_ _)); exact BKg1.out)⟩, ⟨(by (with_reducible repeat (first | refine blk_drewN ?_ _ | refine blk_drew ?_ | refine blk_alloc ?_ _)); refine blk_far ?_ NB52.out _; (with_reducible repeat (first | refine blk_drewN ?_ _ | refine blk_drew ?_ | refine blk_alloc ?_ _)); refine blk_far ?_ NB52.out _; (with_reducible repeat (first | refine blk_drewN ?_ _ | refine blk_drew ?_ | refine blk_alloc ?_ _)); refine blk_far ?_ NB52.out _; (with_reducible repeat (first | refine blk_drewN ?_ _ | refine blk_drew ?_ | refine blk_alloc ?_ _)); refine blk_far ?_ NB52.out _; (with_reducible repeat (first | refine blk_drewN ?_ _ | refine blk_drew ?_ | refine blk_alloc ?_ _)); exact BKg5.out)⟩, ⟨(by (with_reducible repeat (first | refine blk_drewN ?_ _ | refine blk_drew ?_ | refine blk_alloc ?_ _)); refine blk_put (cs := #[.int .i64 a0_0, .slice A0_1 l0_1.length c0_1, .slice A0_2 l0_2.length c0_2, .slice none 0 0]) ?_ 3 _ rfl; (with_reducible repeat (first | refine blk_drewN ?_ _ | refine blk_drew ?_ | refine blk_alloc ?_ _)); refine blk_put (cs := #[.int .i64 a0_0, .slice A0_1 l0_1.length c0_1, .slice none 0 0, .slice none 0 0]) ?_ 2 _ rfl; (with_reducible repeat (first | refine blk_drewN ?_ _ | refine blk_drew ?_ | refine blk_alloc ?_ _)); refine blk_put (cs := #[.int .i64 a0_0, .slice none 0 0, .slice none 0 0, .slice none 0 0]) ?_ 1 _ rfl; (with_reducible repeat (first | refine blk_drewN ?_ _ | refine blk_drew ?_ | refine blk_alloc ?_ _)); refine blk_put (cs := #[.int .i64 0, .slice none 0 0, .slice none 0 0, .slice none 0 0]) ?_ 0 _ rfl; (with_reducible repeat (first | refine blk_drewN ?_ _ | refine blk_drew ?_ | refine blk_alloc ?_ _)); exact BKg2.out)⟩, ⟨bel⟩⟩ ?_
 clear BKg1 BKg5 BKg2 HB kg1_0 kg1_1 kg1_2 kg2_0 kg2_1 kg2_2 kg2_3 fg2_0 fg2_1 fg2_2 fg2_3 hnb1 hnb2 hnb3 hnb4 hnb5 hnb6
 rintro W ⟨BKg1, BKg5, BKg2, HB⟩
 have H := HH.out
 clear HH
 (try clear kg1_0 kg1_1 kg1_2 fg1_0 fg1_1 fg1_2)
 obtain ⟨kg1_0, kg1_1, kg1_2⟩ := bc3 BKg1.out
 obtain ⟨fg1_0, fg1_1, fg1_2⟩ := bf3 BKg1.out
 (try clear kg5_0 fg5_0)
 have kg5_0 := bc1 BKg5.out
 have fg5_0 := bf1 BKg5.out
 (try clear kg2_0 kg2_1 kg2_2 kg2_3 fg2_0 fg2_1 fg2_2 fg2_3)
 obtain ⟨kg2_0, kg2_1, kg2_2, kg2_3⟩ := bc4 BKg2.out
 obtain ⟨fg2_0, fg2_1, fg2_2, fg2_3⟩ := bf4 BKg2.out
 cases v with
 | false =>
  rw [if_neg (by decide)] at H
  cases H
  go_wp2_with (first | ((with_reducible refine gate_callee (f := 27) rfl ?_); refine goesL_ (some 19) rfl rfl Tryd.func27 (by kernel_rfl) rfl #[.agg #[.int .i64 a0_0, .slice A0_1 l0_1.length c0_1, .slice A0_2 l0_2.length c0_2]] rfl mapz ?_; (refine (feed_Valid.calls a0_0 _ _ l0_1 _ _ l0_2 _ _ ?side1 ?side2 ?side3 ?side4 E1.out).mono ?_); (case side1 => exact cbz HR0_1); (case side2 => exact HC0_1.out); (case side3 => exact cbz HR0_2); (case side4 => exact HC0_2.out); rintro e wz ⟨rfl, hb⟩; refine ⟨_, rfl, ?_⟩; replace BKg1 := Aside0.mk (blk_below (g := g1) blkz hb); replace BKg5 := Aside0.mk (blk_below (g := g5) blkz hb); replace BKg2 := Aside0.mk (blk_below (g := g2) blkz hb); replace HB := Aside0.mk (below_step bel hb); (try clear hb); (try clear kg1_0 kg1_1 kg1_2 fg1_0 fg1_1 fg1_2); obtain ⟨kg1_0, kg1_1, kg1_2⟩ := bc3 BKg1.out; obtain ⟨fg1_0, fg1_1, fg1_2⟩ := bf3 BKg1.out; (try clear kg5_0 fg5_0); have kg5_0 := bc1 BKg5.out; have fg5_0 := bf1 BKg5.out; (try clear kg2_0 kg2_1 kg2_2 kg2_3 fg2_0 fg2_1 fg2_2 fg2_3); obtain ⟨kg2_0, kg2_1, kg2_2, kg2_3⟩ := bc4 BKg2.out; obtain ⟨fg2_0, fg2_1, fg2_2, fg2_3⟩ := bf4 BKg2.out))
  go_ret2
  exact ⟨rfl, bel⟩
 | true =>
  rw [if_pos rfl] at H
  obtain ⟨te, A20, H⟩ := Option.bind_eq_some_iff.mp H
  have E2 := Aside0.mk A20
  clear A20
  by_cases c1 : te = 0
  ·
   rw [if_pos c1] at H
   have b0 : (te != 0) = false := bne_eq_false_iff_eq.mpr c1
   clear c1
   obtain ⟨ta, A30, H⟩ := Option.bind_eq_some_iff.mp H
   obtain ⟨ok, hgo, H⟩ := Option.bind_eq_some_iff.mp H
   have E3 := Aside0.mk A30
   have HE := Aside0.mk H
   have HG1 := Aside0.mk hgo
   clear A30 hgo H
   go_wp2_with (first | ((with_reducible refine gate_callee (f := 27) rfl ?_); refine goesL_ (some 19) rfl rfl Tryd.func27 (by kernel_rfl) rfl #[.agg #[.int .i64 a0_0, .slice A0_1 l0_1.length c0_1, .slice A0_2 l0_2.length c0_2]] rfl mapz ?_; (refine (feed_Valid.calls a0_0 _ _ l0_1 _ _ l0_2 _ _ ?side1 ?side2 ?side3 ?side4 E1.out).mono ?_); (case side1 => exact cbz HR0_1); (case side2 => exact HC0_1.out); (case side3 => exact cbz HR0_2); (case side4 => exact HC0_2.out); rintro e wz ⟨rfl, hb⟩; refine ⟨_, rfl, ?_⟩; replace BKg1 := Aside0.mk (blk_below (g := g1) blkz hb); replace BKg5 := Aside0.mk (blk_below (g := g5) blkz hb); replace BKg2 := Aside0.mk (blk_below (g := g2) blkz hb); replace HB := Aside0.mk (below_step bel hb); (try clear hb); (try clear kg1_0 kg1_1 kg1_2 fg1_0 fg1_1 fg1_2); obtain ⟨kg1_0, kg1_1, kg1_2⟩ := bc3 BKg1.out; obtain ⟨fg1_0, fg1_1, fg1_2⟩ := bf3 BKg1.out; (try clear kg5_0 fg5_0); have kg5_0 := bc1 BKg5.out; have fg5_0 := bf1 BKg5.out; (try clear kg2_0 kg2_1 kg2_2 kg2_3 fg2_0 fg2_1 fg2_2 fg2_3); obtain ⟨kg2_0, kg2_1, kg2_2, kg2_3⟩ := bc4 BKg2.out; obtain ⟨fg2_0, fg2_1, fg2_2, fg2_3⟩ := bf4 BKg2.out) | ((with_reducible refine gate_callee (f := 28) rfl ?_); refine goesL_ (some 22) rfl rfl Tryd.func28 (by kernel_rfl) rfl #[.agg #[.int .i64 a0_0, .slice A0_1 l0_1.length c0_1, .slice A0_2 l0_2.length c0_2, .slice A3 l3.length c3]] rfl mapz ?_; (refine (feed_rule_kept.calls k a0_0 _ _ l0_1 _ _ l0_2 _ _ l3 _ _ ?side1 ?side2 ?side3 ?side4 ?side5 ?side6 E2.out).mono ?_); (case side1 => exact cbz HR0_1); (case side2 => exact HC0_1.out); (case side3 => exact cbz HR0_2); (case side4 => exact HC0_2.out); (case side5 => exact cbz HR3); (case side6 => exact HC3.out); rintro e wz ⟨rfl, hb⟩; refine ⟨_, rfl, ?_⟩; replace BKg1 := Aside0.mk (blk_below (g := g1) blkz hb); replace BKg5 := Aside0.mk (blk_below (g := g5) blkz hb); replace BKg2 := Aside0.mk (blk_below (g := g2) blkz hb); replace HB := Aside0.mk (below_step bel hb); (try clear hb); (try clear kg1_0 kg1_1 kg1_2 fg1_0 fg1_1 fg1_2); obtain ⟨kg1_0, kg1_1, kg1_2⟩ := bc3 BKg1.out; obtain ⟨fg1_0, fg1_1, fg1_2⟩ := bf3 BKg1.out; (try clear kg5_0 fg5_0); have kg5_0 := bc1 BKg5.out; have fg5_0 := bf1 BKg5.out; (try clear kg2_0 kg2_1 kg2_2 kg2_3 fg2_0 fg2_1 fg2_2 fg2_3); obtain ⟨kg2_0, kg2_1, kg2_2, kg2_3⟩ := bc4 BKg2.out; obtain ⟨fg2_0, fg2_1, fg2_2, fg2_3⟩ := bf4 BKg2.out))
   clear kg1_0 fg1_0 kg1_1 fg1_1 kg1_2 fg1_2 kg5_0 fg5_0 kg2_0 fg2_0 kg2_1 fg2_1 kg2_2 fg2_2 kg2_3 fg2_3
   go_loopg [28] l4.length (fun kq v28 w' => ∃ x : Int, v28 = .int .i64 x ∧ Aside0 (0 ≤ x ∧ x ≤ l4.length) ∧ Aside0 (kq = l4.length - x.toNat) ∧ Aside0 (feed_IsShut.go1 k a0_0 l0_1 l0_2 l3 ta (feed_IsShut.prev l4 x) (l4.drop x.toNat) = some ok) ∧ Aside0 (w'.heap[g1]? = some (.cells #[.int .i64 a0_0, .slice A0_1 l0_1.length c0_1, .slice A0_2 l0_2.length c0_2] 25 (0, 0))) ∧ Aside0 (w'.heap[g5]? = some (.cells #[.slice A4 l4.length c4] 26 (0, 0))) ∧ Aside0 (w'.heap[g2]? = some (.cells #[.int .i64 a0_0, .slice A0_1 l0_1.length c0_1, .slice A0_2 l0_2.length c0_2, .slice A3 l3.length c3] 56 (0, 0))) ∧ Aside0 (Below w.heap.size w w'))
   case atStart => exact ⟨0, rfl, ⟨by omega, by omega⟩, ⟨rfl⟩, HG1, ⟨blkz⟩, ⟨blkz⟩, ⟨blkz⟩, ⟨bel⟩⟩
   case round =>
    clear HG1 BKg1 BKg5 BKg2 HB
    obtain ⟨x, rfl, HI, HK, HG, BKg1, BKg5, BKg2, HB⟩ := hrel
    (try clear kg1_0 kg1_1 kg1_2 fg1_0 fg1_1 fg1_2)
    obtain ⟨kg1_0, kg1_1, kg1_2⟩ := bc3 BKg1.out
    obtain ⟨fg1_0, fg1_1, fg1_2⟩ := bf3 BKg1.out
    (try clear kg5_0 fg5_0)
    have kg5_0 := bc1 BKg5.out
    have fg5_0 := bf1 BKg5.out
    (try clear kg2_0 kg2_1 kg2_2 kg2_3 fg2_0 fg2_1 fg2_2 fg2_3)
    obtain ⟨kg2_0, kg2_1, kg2_2, kg2_3⟩ := bc4 BKg2.out
    obtain ⟨fg2_0, fg2_1, fg2_2, fg2_3⟩ := bf4 BKg2.out
    by_cases hlt : x < (l4.length : Int)
    ·
     have b1 : decide (x < (l4.length : Int)) = true := decide_eq_true hlt
     have p1 : 0 ≤ x := HI.out.1
     have hxl : x.toNat < l4.length := by omega
     have hd : l4.drop x.toNat = rd l4 x :: l4.drop (x.toNat + 1) := by
      rw [show rd l4 x = l4[x.toNat] by simp [rd, List.getD_eq_getElem?_getD, hxl]]; exact List.drop_eq_getElem_cons hxl
     obtain ⟨ad, e1, hx0⟩ := Kd.at_int HR4.out x p1 hlt
     have hg := HG.out
     rw [hd, feed_IsShut.go1] at hg
     obtain ⟨c, A40, hg⟩ := Option.bind_eq_some_iff.mp hg
     have E4 := Aside0.mk A40
     replace hx0 := (HB.out.cell (World.block_lt_of_cell? _ _ hx0)).trans hx0
     have hxw : wrap64 (x + 1) = x + 1 := by unfold wrap64; have := HL4.out; omega
     have HXW := Aside0.mk hxw
     replace p1 := eq_true p1
     replace hlt := eq_true hlt
     clear hd A40 hxw
     cases c with
     | false =>
      rw [if_neg (by decide)] at hg
      cases hg
      obtain ⟨rfl, rfl⟩ := Prod.mk.inj (Option.some.inj HE.out)
      clear hxl
      go_wp2_with (first | ((with_reducible refine gate_callee (f := 26) rfl ?_); refine goesL_ (some 36) rfl rfl Tryd.func26 (by kernel_rfl) rfl #[.agg #[.int .i64 a0_0, .slice A0_1 l0_1.length c0_1, .slice A0_2 l0_2.length c0_2]] rfl mapz ?_; (refine (feed_grid_all.calls a0_0 _ _ l0_1 _ _ l0_2 ta _ ?side1 ?side2 ?side3 ?side4 E3.out).mono ?_); (case side1 => exact cbz HR0_1); (case side2 => exact HC0_1.out); (case side3 => exact cbz HR0_2); (case side4 => exact HC0_2.out); rintro e wz ⟨rfl, hb⟩; refine ⟨_, rfl, ?_⟩; replace BKg1 := Aside0.mk (blk_below (g := g1) blkz hb); replace BKg5 := Aside0.mk (blk_below (g := g5) blkz hb); replace BKg2 := Aside0.mk (blk_below (g := g2) blkz hb); replace HB := Aside0.mk (below_step bel hb); (try clear hb); (try clear kg1_0 kg1_1 kg1_2 fg1_0 fg1_1 fg1_2); obtain ⟨kg1_0, kg1_1, kg1_2⟩ := bc3 BKg1.out; obtain ⟨fg1_0, fg1_1, fg1_2⟩ := bf3 BKg1.out; (try clear kg5_0 fg5_0); have kg5_0 := bc1 BKg5.out; have fg5_0 := bf1 BKg5.out; (try clear kg2_0 kg2_1 kg2_2 kg2_3 fg2_0 fg2_1 fg2_2 fg2_3); obtain ⟨kg2_0, kg2_1, kg2_2, kg2_3⟩ := bc4 BKg2.out; obtain ⟨fg2_0, fg2_1, fg2_2, fg2_3⟩ := bf4 BKg2.out) | ((with_reducible refine gate_callee (f := 25) rfl ?_); refine goesL_ (some 38) rfl rfl Tryd.func25 (by kernel_rfl) rfl #[.int .i64 0, .int .i64 (rd l4 x), .int .i64 (wrap64 (ta - 1))] rfl mapz ?_; (refine (feed_within.calls 0 (rd l4 x) (wrap64 (ta - 1)) _ _ E4.out).mono ?_); rintro e w' ⟨rfl, ⟨nd, rfl⟩⟩; refine ⟨_, rfl, ?_⟩; (try (rw [drewN_self wz]; generalize hq_ : World.drewN wz _ = wz; have n1_ : Aside0 (wz.heap[g1]? = some (.cells #[.int .i64 a0_0, .slice A0_1 l0_1.length c0_1, .slice A0_2 l0_2.length c0_2] 25 (0, 0))) := ⟨by rw [← hq_]; exact blkz⟩; have n2_ : Aside0 (wz.heap[g5]? = some (.cells #[.slice A4 l4.length c4] 26 (0, 0))) := ⟨by rw [← hq_]; exact blkz⟩; have n3_ : Aside0 (wz.heap[g2]? = some (.cells #[.int .i64 a0_0, .slice A0_1 l0_1.length c0_1, .slice A0_2 l0_2.length c0_2, .slice A3 l3.length c3] 56 (0, 0))) := ⟨by rw [← hq_]; exact blkz⟩; have n4_ : Aside0 (Below w.heap.size w wz) := ⟨by rw [← hq_]; exact bel⟩; clear BKg1 BKg5 BKg2 HB hq_; have BKg1 := n1_; have BKg5 := n2_; have BKg2 := n3_; have HB := n4_; clear n1_ n2_ n3_ n4_)); (try clear kg1_0 kg1_1 kg1_2 fg1_0 fg1_1 fg1_2); obtain ⟨kg1_0, kg1_1, kg1_2⟩ := bc3 BKg1.out; obtain ⟨fg1_0, fg1_1, fg1_2⟩ := bf3 BKg1.out; (try clear kg5_0 fg5_0); have kg5_0 := bc1 BKg5.out; have fg5_0 := bf1 BKg5.out; (try clear kg2_0 kg2_1 kg2_2 kg2_3 fg2_0 fg2_1 fg2_2 fg2_3); obtain ⟨kg2_0, kg2_1, kg2_2, kg2_3⟩ := bc4 BKg2.out; obtain ⟨fg2_0, fg2_1, fg2_2, fg2_3⟩ := bf4 BKg2.out; (try have hy0 := (HB.out.cell (World.block_lt_of_cell? _ _ HY.out)).trans HY.out)) | (go_at_call 29; (refine (feed_rule_keeps.calls k a0_0 _ _ l0_1 _ _ l0_2 _ _ l3 (rd l4 x) _ _ ?side1 ?side2 ?side3 ?side4 ?side5 ?side6 ?sideT E5.out).mono ?_); (case side1 => exact cbz HR0_1); (case side2 => exact HC0_1.out); (case side3 => exact cbz HR0_2); (case side4 => exact HC0_2.out); (case side5 => exact cbz HR3); (case side6 => exact HC3.out); (case sideT => first | exact HT.out | exact Tab.Tabs.below HT.out bel); rintro e wz ⟨rfl, hb⟩; replace BKg1 := Aside0.mk (blk_below (g := g1) blkz hb); replace BKg5 := Aside0.mk (blk_below (g := g5) blkz hb); replace BKg2 := Aside0.mk (blk_below (g := g2) blkz hb); replace HB := Aside0.mk (below_step bel hb); (try clear hb); (try clear kg1_0 kg1_1 kg1_2 fg1_0 fg1_1 fg1_2); obtain ⟨kg1_0, kg1_1, kg1_2⟩ := bc3 BKg1.out; obtain ⟨fg1_0, fg1_1, fg1_2⟩ := bf3 BKg1.out; (try clear kg5_0 fg5_0); have kg5_0 := bc1 BKg5.out; have fg5_0 := bf1 BKg5.out; (try clear kg2_0 kg2_1 kg2_2 kg2_3 fg2_0 fg2_1 fg2_2 fg2_3); obtain ⟨kg2_0, kg2_1, kg2_2, kg2_3⟩ := bc4 BKg2.out; obtain ⟨fg2_0, fg2_1, fg2_2, fg2_3⟩ := bf4 BKg2.out))
      go_ret2
      exact ⟨rfl, bel⟩
     | true =>
      rw [if_pos rfl] at hg
      by_cases hpos : 0 < x
      ·
       have b2 : decide (x > 0) = true := decide_eq_true hpos
       have hym : wrap64 (x - 1) = x - 1 := by unfold wrap64; have := HL4.out; have := of_eq_true hlt; omega
       have q1 : 0 ≤ x - 1 := by omega
       have q2 : x - 1 < (l4.length : Int) := by have := of_eq_true hlt; omega
       obtain ⟨ad2, e2, hy0⟩ := Kd.at_int HR4.out (x - 1) q1 q2
       cases e1.symm.trans e2
       clear e2
       rw [show (x - 1).toNat = x.toNat - 1 by omega] at hy0
       have HY := Aside0.mk hy0
       clear hy0
       have q3 : (1 ≤ x) = True := eq_true (by omega)
       replace q1 := eq_true q1
       replace q2 := eq_true q2
       have hp : feed_IsShut.before (feed_IsShut.prev l4 x) (rd l4 x) = decide (rd l4 x ≤ rd l4 (x - 1)) := by unfold feed_IsShut.prev; rw [if_pos hpos]; rfl
       rw [hp] at hg
       by_cases hle : rd l4 x ≤ rd l4 (x - 1)
       ·
        have b3 : decide (rd l4 x ≤ rd l4 (x - 1)) = true := decide_eq_true hle
        rw [if_pos b3] at hg
        cases hg
        obtain ⟨rfl, rfl⟩ := Prod.mk.inj (Option.some.inj HE.out)
        clear hxl hp hle hpos
        go_wp2_with (first | ((with_reducible refine gate_callee (f := 26) rfl ?_); refine goesL_ (some 36) rfl rfl Tryd.func26 (by kernel_rfl) rfl #[.agg #[.int .i64 a0_0, .slice A0_1 l0_1.length c0_1, .slice A0_2 l0_2.length c0_2]] rfl mapz ?_; (refine (feed_grid_all.calls a0_0 _ _ l0_1 _ _ l0_2 ta _ ?side1 ?side2 ?side3 ?side4 E3.out).mono ?_); (case side1 => exact cbz HR0_1); (case side2 => exact HC0_1.out); (case side3 => exact cbz HR0_2); (case side4 => exact HC0_2.out); rintro e wz ⟨rfl, hb⟩; refine ⟨_, rfl, ?_⟩; replace BKg1 := Aside0.mk (blk_below (g := g1) blkz hb); replace BKg5 := Aside0.mk (blk_below (g := g5) blkz hb); replace BKg2 := Aside0.mk (blk_below (g := g2) blkz hb); replace HB := Aside0.mk (below_step bel hb); (try clear hb); (try clear kg1_0 kg1_1 kg1_2 fg1_0 fg1_1 fg1_2); obtain ⟨kg1_0, kg1_1, kg1_2⟩ := bc3 BKg1.out; obtain ⟨fg1_0, fg1_1, fg1_2⟩ := bf3 BKg1.out; (try clear kg5_0 fg5_0); have kg5_0 := bc1 BKg5.out; have fg5_0 := bf1 BKg5.out; (try clear kg2_0 kg2_1 kg2_2 kg2_3 fg2_0 fg2_1 fg2_2 fg2_3); obtain ⟨kg2_0, kg2_1, kg2_2, kg2_3⟩ := bc4 BKg2.out; obtain ⟨fg2_0, fg2_1, fg2_2, fg2_3⟩ := bf4 BKg2.out) | ((with_reducible refine gate_callee (f := 25) rfl ?_); refine goesL_ (some 38) rfl rfl Tryd.func25 (by kernel_rfl) rfl #[.int .i64 0, .int .i64 (rd l4 x), .int .i64 (wrap64 (ta - 1))] rfl mapz ?_; (refine (feed_within.calls 0 (rd l4 x) (wrap64 (ta - 1)) _ _ E4.out).mono ?_); rintro e w' ⟨rfl, ⟨nd, rfl⟩⟩; refine ⟨_, rfl, ?_⟩; (try (rw [drewN_self wz]; generalize hq_ : World.drewN wz _ = wz; have n1_ : Aside0 (wz.heap[g1]? = some (.cells #[.int .i64 a0_0, .slice A0_1 l0_1.length c0_1, .slice A0_2 l0_2.length c0_2] 25 (0, 0))) := ⟨by rw [← hq_]; exact blkz⟩; have n2_ : Aside0 (wz.heap[g5]? = some (.cells #[.slice A4 l4.length c4] 26 (0, 0))) := ⟨by rw [← hq_]; exact blkz⟩; have n3_ : Aside0 (wz.heap[g2]? = some (.cells #[.int .i64 a0_0, .slice A0_1 l0_1.length c0_1, .slice A0_2 l0_2.length c0_2, .slice A3 l3.length c3] 56 (0, 0))) := ⟨by rw [← hq_]; exact blkz⟩; have n4_ : Aside0 (Below w.heap.size w wz) := ⟨by rw [← hq_]; exact bel⟩; clear BKg1 BKg5 BKg2 HB hq_; have BKg1 := n1_; have BKg5 := n2_; have BKg2 := n3_; have HB := n4_; clear n1_ n2_ n3_ n4_)); (try clear kg1_0 kg1_1 kg1_2 fg1_0 fg1_1 fg1_2); obtain ⟨kg1_0, kg1_1, kg1_2⟩ := bc3 BKg1.out; obtain ⟨fg1_0, fg1_1, fg1_2⟩ := bf3 BKg1.out; (try clear kg5_0 fg5_0); have kg5_0 := bc1 BKg5.out; have fg5_0 := bf1 BKg5.out; (try clear kg2_0 kg2_1 kg2_2 kg2_3 fg2_0 fg2_1 fg2_2 fg2_3); obtain ⟨kg2_0, kg2_1, kg2_2, kg2_3⟩ := bc4 BKg2.out; obtain ⟨fg2_0, fg2_1, fg2_2, fg2_3⟩ := bf4 BKg2.out; (try have hy0 := (HB.out.cell (World.block_lt_of_cell? _ _ HY.out)).trans HY.out)) | (go_at_call 29; (refine (feed_rule_keeps.calls k a0_0 _ _ l0_1 _ _ l0_2 _ _ l3 (rd l4 x) _ _ ?side1 ?side2 ?side3 ?side4 ?side5 ?side6 ?sideT E5.out).mono ?_); (case side1 => exact cbz HR0_1); (case side2 => exact HC0_1.out); (case side3 => exact cbz HR0_2); (case side4 => exact HC0_2.out); (case side5 => exact cbz HR3); (case side6 => exact HC3.out); (case sideT => first | exact HT.out | exact Tab.Tabs.below HT.out bel); rintro e wz ⟨rfl, hb⟩; replace BKg1 := Aside0.mk (blk_below (g := g1) blkz hb); replace BKg5 := Aside0.mk (blk_below (g := g5) blkz hb); replace BKg2 := Aside0.mk (blk_below (g := g2) blkz hb); replace HB := Aside0.mk (below_step bel hb); (try clear hb); (try clear kg1_0 kg1_1 kg1_2 fg1_0 fg1_1 fg1_2); obtain ⟨kg1_0, kg1_1, kg1_2⟩ := bc3 BKg1.out; obtain ⟨fg1_0, fg1_1, fg1_2⟩ := bf3 BKg1.out; (try clear kg5_0 fg5_0); have kg5_0 := bc1 BKg5.out; have fg5_0 := bf1 BKg5.out; (try clear kg2_0 kg2_1 kg2_2 kg2_3 fg2_0 fg2_1 fg2_2 fg2_3); obtain ⟨kg2_0, kg2_1, kg2_2, kg2_3⟩ := bc4 BKg2.out; obtain ⟨fg2_0, fg2_1, fg2_2, fg2_3⟩ := bf4 BKg2.out))
        go_ret2
        exact ⟨rfl, bel⟩
       ·
        have b3 : decide (rd l4 x ≤ rd l4 (x - 1)) = false := decide_eq_false hle
        rw [if_neg (by rw [b3]; decide)] at hg
        clear hp hle hpos
        obtain ⟨b, A50, hg⟩ := Option.bind_eq_some_iff.mp hg
        have E5 := Aside0.mk A50
        clear A50
        cases b with
        | false =>
         rw [if_neg (by decide)] at hg
         cases hg
         obtain ⟨rfl, rfl⟩ := Prod.mk.inj (Option.some.inj HE.out)
         clear hxl
         go_wp2_with (first | ((with_reducible refine gate_callee (f := 26) rfl ?_); refine goesL_ (some 36) rfl rfl Tryd.func26 (by kernel_rfl) rfl #[.agg #[.int .i64 a0_0, .slice A0_1 l0_1.length c0_1, .slice A0_2 l0_2.length c0_2]] rfl mapz ?_; (refine (feed_grid_all.calls a0_0 _ _ l0_1 _ _ l0_2 ta _ ?side1 ?side2 ?side3 ?side4 E3.out).mono ?_); (case side1 => exact cbz HR0_1); (case side2 => exact HC0_1.out); (case side3 => exact cbz HR0_2); (case side4 => exact HC0_2.out); rintro e wz ⟨rfl, hb⟩; refine ⟨_, rfl, ?_⟩; replace BKg1 := Aside0.mk (blk_below (g := g1) blkz hb); replace BKg5 := Aside0.mk (blk_below (g := g5) blkz hb); replace BKg2 := Aside0.mk (blk_below (g := g2) blkz hb); replace HB := Aside0.mk (below_step bel hb); (try clear hb); (try clear kg1_0 kg1_1 kg1_2 fg1_0 fg1_1 fg1_2); obtain ⟨kg1_0, kg1_1, kg1_2⟩ := bc3 BKg1.out; obtain ⟨fg1_0, fg1_1, fg1_2⟩ := bf3 BKg1.out; (try clear kg5_0 fg5_0); have kg5_0 := bc1 BKg5.out; have fg5_0 := bf1 BKg5.out; (try clear kg2_0 kg2_1 kg2_2 kg2_3 fg2_0 fg2_1 fg2_2 fg2_3); obtain ⟨kg2_0, kg2_1, kg2_2, kg2_3⟩ := bc4 BKg2.out; obtain ⟨fg2_0, fg2_1, fg2_2, fg2_3⟩ := bf4 BKg2.out) | ((with_reducible refine gate_callee (f := 25) rfl ?_); refine goesL_ (some 38) rfl rfl Tryd.func25 (by kernel_rfl) rfl #[.int .i64 0, .int .i64 (rd l4 x), .int .i64 (wrap64 (ta - 1))] rfl mapz ?_; (refine (feed_within.calls 0 (rd l4 x) (wrap64 (ta - 1)) _ _ E4.out).mono ?_); rintro e w' ⟨rfl, ⟨nd, rfl⟩⟩; refine ⟨_, rfl, ?_⟩; (try (rw [drewN_self wz]; generalize hq_ : World.drewN wz _ = wz; have n1_ : Aside0 (wz.heap[g1]? = some (.cells #[.int .i64 a0_0, .slice A0_1 l0_1.length c0_1, .slice A0_2 l0_2.length c0_2] 25 (0, 0))) := ⟨by rw [← hq_]; exact blkz⟩; have n2_ : Aside0 (wz.heap[g5]? = some (.cells #[.slice A4 l4.length c4] 26 (0, 0))) := ⟨by rw [← hq_]; exact blkz⟩; have n3_ : Aside0 (wz.heap[g2]? = some (.cells #[.int .i64 a0_0, .slice A0_1 l0_1.length c0_1, .slice A0_2 l0_2.length c0_2, .slice A3 l3.length c3] 56 (0, 0))) := ⟨by rw [← hq_]; exact blkz⟩; have n4_ : Aside0 (Below w.heap.size w wz) := ⟨by rw [← hq_]; exact bel⟩; clear BKg1 BKg5 BKg2 HB hq_; have BKg1 := n1_; have BKg5 := n2_; have BKg2 := n3_; have HB := n4_; clear n1_ n2_ n3_ n4_)); (try clear kg1_0 kg1_1 kg1_2 fg1_0 fg1_1 fg1_2); obtain ⟨kg1_0, kg1_1, kg1_2⟩ := bc3 BKg1.out; obtain ⟨fg1_0, fg1_1, fg1_2⟩ := bf3 BKg1.out; (try clear kg5_0 fg5_0); have kg5_0 := bc1 BKg5.out; have fg5_0 := bf1 BKg5.out; (try clear kg2_0 kg2_1 kg2_2 kg2_3 fg2_0 fg2_1 fg2_2 fg2_3); obtain ⟨kg2_0, kg2_1, kg2_2, kg2_3⟩ := bc4 BKg2.out; obtain ⟨fg2_0, fg2_1, fg2_2, fg2_3⟩ := bf4 BKg2.out; (try have hy0 := (HB.out.cell (World.block_lt_of_cell? _ _ HY.out)).trans HY.out)) | (go_at_call 29; (refine (feed_rule_keeps.calls k a0_0 _ _ l0_1 _ _ l0_2 _ _ l3 (rd l4 x) _ _ ?side1 ?side2 ?side3 ?side4 ?side5 ?side6 ?sideT E5.out).mono ?_); (case side1 => exact cbz HR0_1); (case side2 => exact HC0_1.out); (case side3 => exact cbz HR0_2); (case side4 => exact HC0_2.out); (case side5 => exact cbz HR3); (case side6 => exact HC3.out); (case sideT => first | exact HT.out | exact Tab.Tabs.below HT.out bel); rintro e wz ⟨rfl, hb⟩; replace BKg1 := Aside0.mk (blk_below (g := g1) blkz hb); replace BKg5 := Aside0.mk (blk_below (g := g5) blkz hb); replace BKg2 := Aside0.mk (blk_below (g := g2) blkz hb); replace HB := Aside0.mk (below_step bel hb); (try clear hb); (try clear kg1_0 kg1_1 kg1_2 fg1_0 fg1_1 fg1_2); obtain ⟨kg1_0, kg1_1, kg1_2⟩ := bc3 BKg1.out; obtain ⟨fg1_0, fg1_1, fg1_2⟩ := bf3 BKg1.out; (try clear kg5_0 fg5_0); have kg5_0 := bc1 BKg5.out; have fg5_0 := bf1 BKg5.out; (try clear kg2_0 kg2_1 kg2_2 kg2_3 fg2_0 fg2_1 fg2_2 fg2_3); obtain ⟨kg2_0, kg2_1, kg2_2, kg2_3⟩ := bc4 BKg2.out; obtain ⟨fg2_0, fg2_1, fg2_2, fg2_3⟩ := bf4 BKg2.out))
         go_ret2
         exact ⟨rfl, bel⟩
        | true =>
         rw [if_pos rfl] at hg
         have HN := Aside0.mk hg
         clear hg hxl
         go_wp2_with (first | ((with_reducible refine gate_callee (f := 26) rfl ?_); refine goesL_ (some 36) rfl rfl Tryd.func26 (by kernel_rfl) rfl #[.agg #[.int .i64 a0_0, .slice A0_1 l0_1.length c0_1, .slice A0_2 l0_2.length c0_2]] rfl mapz ?_; (refine (feed_grid_all.calls a0_0 _ _ l0_1 _ _ l0_2 ta _ ?side1 ?side2 ?side3 ?side4 E3.out).mono ?_); (case side1 => exact cbz HR0_1); (case side2 => exact HC0_1.out); (case side3 => exact cbz HR0_2); (case side4 => exact HC0_2.out); rintro e wz ⟨rfl, hb⟩; refine ⟨_, rfl, ?_⟩; replace BKg1 := Aside0.mk (blk_below (g := g1) blkz hb); replace BKg5 := Aside0.mk (blk_below (g := g5) blkz hb); replace BKg2 := Aside0.mk (blk_below (g := g2) blkz hb); replace HB := Aside0.mk (below_step bel hb); (try clear hb); (try clear kg1_0 kg1_1 kg1_2 fg1_0 fg1_1 fg1_2); obtain ⟨kg1_0, kg1_1, kg1_2⟩ := bc3 BKg1.out; obtain ⟨fg1_0, fg1_1, fg1_2⟩ := bf3 BKg1.out; (try clear kg5_0 fg5_0); have kg5_0 := bc1 BKg5.out; have fg5_0 := bf1 BKg5.out; (try clear kg2_0 kg2_1 kg2_2 kg2_3 fg2_0 fg2_1 fg2_2 fg2_3); obtain ⟨kg2_0, kg2_1, kg2_2, kg2_3⟩ := bc4 BKg2.out; obtain ⟨fg2_0, fg2_1, fg2_2, fg2_3⟩ := bf4 BKg2.out) | ((with_reducible refine gate_callee (f := 25) rfl ?_); refine goesL_ (some 38) rfl rfl Tryd.func25 (by kernel_rfl) rfl #[.int .i64 0, .int .i64 (rd l4 x), .int .i64 (wrap64 (ta - 1))] rfl mapz ?_; (refine (feed_within.calls 0 (rd l4 x) (wrap64 (ta - 1)) _ _ E4.out).mono ?_); rintro e w' ⟨rfl, ⟨nd, rfl⟩⟩; refine ⟨_, rfl, ?_⟩; (try (rw [drewN_self wz]; generalize hq_ : World.drewN wz _ = wz; have n1_ : Aside0 (wz.heap[g1]? = some (.cells #[.int .i64 a0_0, .slice A0_1 l0_1.length c0_1, .slice A0_2 l0_2.length c0_2] 25 (0, 0))) := ⟨by rw [← hq_]; exact blkz⟩; have n2_ : Aside0 (wz.heap[g5]? = some (.cells #[.slice A4 l4.length c4] 26 (0, 0))) := ⟨by rw [← hq_]; exact blkz⟩; have n3_ : Aside0 (wz.heap[g2]? = some (.cells #[.int .i64 a0_0, .slice A0_1 l0_1.length c0_1, .slice A0_2 l0_2.length c0_2, .slice A3 l3.length c3] 56 (0, 0))) := ⟨by rw [← hq_]; exact blkz⟩; have n4_ : Aside0 (Below w.heap.size w wz) := ⟨by rw [← hq_]; exact bel⟩; clear BKg1 BKg5 BKg2 HB hq_; have BKg1 := n1_; have BKg5 := n2_; have BKg2 := n3_; have HB := n4_; clear n1_ n2_ n3_ n4_)); (try clear kg1_0 kg1_1 kg1_2 fg1_0 fg1_1 fg1_2); obtain ⟨kg1_0, kg1_1, kg1_2⟩ := bc3 BKg1.out; obtain ⟨fg1_0, fg1_1, fg1_2⟩ := bf3 BKg1.out; (try clear kg5_0 fg5_0); have kg5_0 := bc1 BKg5.out; have fg5_0 := bf1 BKg5.out; (try clear kg2_0 kg2_1 kg2_2 kg2_3 fg2_0 fg2_1 fg2_2 fg2_3); obtain ⟨kg2_0, kg2_1, kg2_2, kg2_3⟩ := bc4 BKg2.out; obtain ⟨fg2_0, fg2_1, fg2_2, fg2_3⟩ := bf4 BKg2.out; (try have hy0 := (HB.out.cell (World.block_lt_of_cell? _ _ HY.out)).trans HY.out)) | (go_at_call 29; (refine (feed_rule_keeps.calls k a0_0 _ _ l0_1 _ _ l0_2 _ _ l3 (rd l4 x) _ _ ?side1 ?side2 ?side3 ?side4 ?side5 ?side6 ?sideT E5.out).mono ?_); (case side1 => exact cbz HR0_1); (case side2 => exact HC0_1.out); (case side3 => exact cbz HR0_2); (case side4 => exact HC0_2.out); (case side5 => exact cbz HR3); (case side6 => exact HC3.out); (case sideT => first | exact HT.out | exact Tab.Tabs.below HT.out bel); rintro e wz ⟨rfl, hb⟩; replace BKg1 := Aside0.mk (blk_below (g := g1) blkz hb); replace BKg5 := Aside0.mk (blk_below (g := g5) blkz hb); replace BKg2 := Aside0.mk (blk_below (g := g2) blkz hb); replace HB := Aside0.mk (below_step bel hb); (try clear hb); (try clear kg1_0 kg1_1 kg1_2 fg1_0 fg1_1 fg1_2); obtain ⟨kg1_0, kg1_1, kg1_2⟩ := bc3 BKg1.out; obtain ⟨fg1_0, fg1_1, fg1_2⟩ := bf3 BKg1.out; (try clear kg5_0 fg5_0); have kg5_0 := bc1 BKg5.out; have fg5_0 := bf1 BKg5.out; (try clear kg2_0 kg2_1 kg2_2 kg2_3 fg2_0 fg2_1 fg2_2 fg2_3); obtain ⟨kg2_0, kg2_1, kg2_2, kg2_3⟩ := bc4 BKg2.out; obtain ⟨fg2_0, fg2_1, fg2_2, fg2_3⟩ := bf4 BKg2.out))
         rw [← e1]
         go_roundg (l4.length - (x + 1).toNat)
         case measure => have := HI.out; have := HK.out; have := of_eq_true hlt; omega
         case rel => exact ⟨x + 1, by first | rfl | rw [HXW.out], ⟨by have := HI.out; omega, by have := of_eq_true hlt; omega⟩, ⟨rfl⟩, ⟨by rw [show (x + 1).toNat = x.toNat + 1 by have := HI.out; omega, show feed_IsShut.prev l4 (x + 1) = some (rd l4 x) by unfold feed_IsShut.prev; rw [if_pos (by have := HI.out; omega), Int.add_sub_cancel]]; exact HN.out⟩, ⟨blkz⟩, ⟨blkz⟩, ⟨blkz⟩, ⟨bel⟩⟩
      ·
       have b2 : decide (x > 0) = false := decide_eq_false hpos
       have hp : feed_IsShut.before (feed_IsShut.prev l4 x) (rd l4 x) = false := by unfold feed_IsShut.prev; rw [if_neg hpos]; rfl
       rw [hp, if_neg (by decide)] at hg
       clear hp hpos
       obtain ⟨b, A50, hg⟩ := Option.bind_eq_some_iff.mp hg
       have E5 := Aside0.mk A50
       clear A50
       cases b with
       | false =>
        rw [if_neg (by decide)] at hg
        cases hg
        obtain ⟨rfl, rfl⟩ := Prod.mk.inj (Option.some.inj HE.out)
        clear hxl
        go_wp2_with (first | ((with_reducible refine gate_callee (f := 26) rfl ?_); refine goesL_ (some 36) rfl rfl Tryd.func26 (by kernel_rfl) rfl #[.agg #[.int .i64 a0_0, .slice A0_1 l0_1.length c0_1, .slice A0_2 l0_2.length c0_2]] rfl mapz ?_; (refine (feed_grid_all.calls a0_0 _ _ l0_1 _ _ l0_2 ta _ ?side1 ?side2 ?side3 ?side4 E3.out).mono ?_); (case side1 => exact cbz HR0_1); (case side2 => exact HC0_1.out); (case side3 => exact cbz HR0_2); (case side4 => exact HC0_2.out); rintro e wz ⟨rfl, hb⟩; refine ⟨_, rfl, ?_⟩; replace BKg1 := Aside0.mk (blk_below (g := g1) blkz hb); replace BKg5 := Aside0.mk (blk_below (g := g5) blkz hb); replace BKg2 := Aside0.mk (blk_below (g := g2) blkz hb); replace HB := Aside0.mk (below_step bel hb); (try clear hb); (try clear kg1_0 kg1_1 kg1_2 fg1_0 fg1_1 fg1_2); obtain ⟨kg1_0, kg1_1, kg1_2⟩ := bc3 BKg1.out; obtain ⟨fg1_0, fg1_1, fg1_2⟩ := bf3 BKg1.out; (try clear kg5_0 fg5_0); have kg5_0 := bc1 BKg5.out; have fg5_0 := bf1 BKg5.out; (try clear kg2_0 kg2_1 kg2_2 kg2_3 fg2_0 fg2_1 fg2_2 fg2_3); obtain ⟨kg2_0, kg2_1, kg2_2, kg2_3⟩ := bc4 BKg2.out; obtain ⟨fg2_0, fg2_1, fg2_2, fg2_3⟩ := bf4 BKg2.out) | ((with_reducible refine gate_callee (f := 25) rfl ?_); refine goesL_ (some 38) rfl rfl Tryd.func25 (by kernel_rfl) rfl #[.int .i64 0, .int .i64 (rd l4 x), .int .i64 (wrap64 (ta - 1))] rfl mapz ?_; (refine (feed_within.calls 0 (rd l4 x) (wrap64 (ta - 1)) _ _ E4.out).mono ?_); rintro e w' ⟨rfl, ⟨nd, rfl⟩⟩; refine ⟨_, rfl, ?_⟩; (try (rw [drewN_self wz]; generalize hq_ : World.drewN wz _ = wz; have n1_ : Aside0 (wz.heap[g1]? = some (.cells #[.int .i64 a0_0, .slice A0_1 l0_1.length c0_1, .slice A0_2 l0_2.length c0_2] 25 (0, 0))) := ⟨by rw [← hq_]; exact blkz⟩; have n2_ : Aside0 (wz.heap[g5]? = some (.cells #[.slice A4 l4.length c4] 26 (0, 0))) := ⟨by rw [← hq_]; exact blkz⟩; have n3_ : Aside0 (wz.heap[g2]? = some (.cells #[.int .i64 a0_0, .slice A0_1 l0_1.length c0_1, .slice A0_2 l0_2.length c0_2, .slice A3 l3.length c3] 56 (0, 0))) := ⟨by rw [← hq_]; exact blkz⟩; have n4_ : Aside0 (Below w.heap.size w wz) := ⟨by rw [← hq_]; exact bel⟩; clear BKg1 BKg5 BKg2 HB hq_; have BKg1 := n1_; have BKg5 := n2_; have BKg2 := n3_; have HB := n4_; clear n1_ n2_ n3_ n4_)); (try clear kg1_0 kg1_1 kg1_2 fg1_0 fg1_1 fg1_2); obtain ⟨kg1_0, kg1_1, kg1_2⟩ := bc3 BKg1.out; obtain ⟨fg1_0, fg1_1, fg1_2⟩ := bf3 BKg1.out; (try clear kg5_0 fg5_0); have kg5_0 := bc1 BKg5.out; have fg5_0 := bf1 BKg5.out; (try clear kg2_0 kg2_1 kg2_2 kg2_3 fg2_0 fg2_1 fg2_2 fg2_3); obtain ⟨kg2_0, kg2_1, kg2_2, kg2_3⟩ := bc4 BKg2.out; obtain ⟨fg2_0, fg2_1, fg2_2, fg2_3⟩ := bf4 BKg2.out; (try have hy0 := (HB.out.cell (World.block_lt_of_cell? _ _ HY.out)).trans HY.out)) | (go_at_call 29; (refine (feed_rule_keeps.calls k a0_0 _ _ l0_1 _ _ l0_2 _ _ l3 (rd l4 x) _ _ ?side1 ?side2 ?side3 ?side4 ?side5 ?side6 ?sideT E5.out).mono ?_); (case side1 => exact cbz HR0_1); (case side2 => exact HC0_1.out); (case side3 => exact cbz HR0_2); (case side4 => exact HC0_2.out); (case side5 => exact cbz HR3); (case side6 => exact HC3.out); (case sideT => first | exact HT.out | exact Tab.Tabs.below HT.out bel); rintro e wz ⟨rfl, hb⟩; replace BKg1 := Aside0.mk (blk_below (g := g1) blkz hb); replace BKg5 := Aside0.mk (blk_below (g := g5) blkz hb); replace BKg2 := Aside0.mk (blk_below (g := g2) blkz hb); replace HB := Aside0.mk (below_step bel hb); (try clear hb); (try clear kg1_0 kg1_1 kg1_2 fg1_0 fg1_1 fg1_2); obtain ⟨kg1_0, kg1_1, kg1_2⟩ := bc3 BKg1.out; obtain ⟨fg1_0, fg1_1, fg1_2⟩ := bf3 BKg1.out; (try clear kg5_0 fg5_0); have kg5_0 := bc1 BKg5.out; have fg5_0 := bf1 BKg5.out; (try clear kg2_0 kg2_1 kg2_2 kg2_3 fg2_0 fg2_1 fg2_2 fg2_3); obtain ⟨kg2_0, kg2_1, kg2_2, kg2_3⟩ := bc4 BKg2.out; obtain ⟨fg2_0, fg2_1, fg2_2, fg2_3⟩ := bf4 BKg2.out))
        go_ret2
        exact ⟨rfl, bel⟩
       | true =>
        rw [if_pos rfl] at hg
        have HN := Aside0.mk hg
        clear hg hxl
        go_wp2_with (first | ((with_reducible refine gate_callee (f := 26) rfl ?_); refine goesL_ (some 36) rfl rfl Tryd.func26 (by kernel_rfl) rfl #[.agg #[.int .i64 a0_0, .slice A0_1 l0_1.length c0_1, .slice A0_2 l0_2.length c0_2]] rfl mapz ?_; (refine (feed_grid_all.calls a0_0 _ _ l0_1 _ _ l0_2 ta _ ?side1 ?side2 ?side3 ?side4 E3.out).mono ?_); (case side1 => exact cbz HR0_1); (case side2 => exact HC0_1.out); (case side3 => exact cbz HR0_2); (case side4 => exact HC0_2.out); rintro e wz ⟨rfl, hb⟩; refine ⟨_, rfl, ?_⟩; replace BKg1 := Aside0.mk (blk_below (g := g1) blkz hb); replace BKg5 := Aside0.mk (blk_below (g := g5) blkz hb); replace BKg2 := Aside0.mk (blk_below (g := g2) blkz hb); replace HB := Aside0.mk (below_step bel hb); (try clear hb); (try clear kg1_0 kg1_1 kg1_2 fg1_0 fg1_1 fg1_2); obtain ⟨kg1_0, kg1_1, kg1_2⟩ := bc3 BKg1.out; obtain ⟨fg1_0, fg1_1, fg1_2⟩ := bf3 BKg1.out; (try clear kg5_0 fg5_0); have kg5_0 := bc1 BKg5.out; have fg5_0 := bf1 BKg5.out; (try clear kg2_0 kg2_1 kg2_2 kg2_3 fg2_0 fg2_1 fg2_2 fg2_3); obtain ⟨kg2_0, kg2_1, kg2_2, kg2_3⟩ := bc4 BKg2.out; obtain ⟨fg2_0, fg2_1, fg2_2, fg2_3⟩ := bf4 BKg2.out) | ((with_reducible refine gate_callee (f := 25) rfl ?_); refine goesL_ (some 38) rfl rfl Tryd.func25 (by kernel_rfl) rfl #[.int .i64 0, .int .i64 (rd l4 x), .int .i64 (wrap64 (ta - 1))] rfl mapz ?_; (refine (feed_within.calls 0 (rd l4 x) (wrap64 (ta - 1)) _ _ E4.out).mono ?_); rintro e w' ⟨rfl, ⟨nd, rfl⟩⟩; refine ⟨_, rfl, ?_⟩; (try (rw [drewN_self wz]; generalize hq_ : World.drewN wz _ = wz; have n1_ : Aside0 (wz.heap[g1]? = some (.cells #[.int .i64 a0_0, .slice A0_1 l0_1.length c0_1, .slice A0_2 l0_2.length c0_2] 25 (0, 0))) := ⟨by rw [← hq_]; exact blkz⟩; have n2_ : Aside0 (wz.heap[g5]? = some (.cells #[.slice A4 l4.length c4] 26 (0, 0))) := ⟨by rw [← hq_]; exact blkz⟩; have n3_ : Aside0 (wz.heap[g2]? = some (.cells #[.int .i64 a0_0, .slice A0_1 l0_1.length c0_1, .slice A0_2 l0_2.length c0_2, .slice A3 l3.length c3] 56 (0, 0))) := ⟨by rw [← hq_]; exact blkz⟩; have n4_ : Aside0 (Below w.heap.size w wz) := ⟨by rw [← hq_]; exact bel⟩; clear BKg1 BKg5 BKg2 HB hq_; have BKg1 := n1_; have BKg5 := n2_; have BKg2 := n3_; have HB := n4_; clear n1_ n2_ n3_ n4_)); (try clear kg1_0 kg1_1 kg1_2 fg1_0 fg1_1 fg1_2); obtain ⟨kg1_0, kg1_1, kg1_2⟩ := bc3 BKg1.out; obtain ⟨fg1_0, fg1_1, fg1_2⟩ := bf3 BKg1.out; (try clear kg5_0 fg5_0); have kg5_0 := bc1 BKg5.out; have fg5_0 := bf1 BKg5.out; (try clear kg2_0 kg2_1 kg2_2 kg2_3 fg2_0 fg2_1 fg2_2 fg2_3); obtain ⟨kg2_0, kg2_1, kg2_2, kg2_3⟩ := bc4 BKg2.out; obtain ⟨fg2_0, fg2_1, fg2_2, fg2_3⟩ := bf4 BKg2.out; (try have hy0 := (HB.out.cell (World.block_lt_of_cell? _ _ HY.out)).trans HY.out)) | (go_at_call 29; (refine (feed_rule_keeps.calls k a0_0 _ _ l0_1 _ _ l0_2 _ _ l3 (rd l4 x) _ _ ?side1 ?side2 ?side3 ?side4 ?side5 ?side6 ?sideT E5.out).mono ?_); (case side1 => exact cbz HR0_1); (case side2 => exact HC0_1.out); (case side3 => exact cbz HR0_2); (case side4 => exact HC0_2.out); (case side5 => exact cbz HR3); (case side6 => exact HC3.out); (case sideT => first | exact HT.out | exact Tab.Tabs.below HT.out bel); rintro e wz ⟨rfl, hb⟩; replace BKg1 := Aside0.mk (blk_below (g := g1) blkz hb); replace BKg5 := Aside0.mk (blk_below (g := g5) blkz hb); replace BKg2 := Aside0.mk (blk_below (g := g2) blkz hb); replace HB := Aside0.mk (below_step bel hb); (try clear hb); (try clear kg1_0 kg1_1 kg1_2 fg1_0 fg1_1 fg1_2); obtain ⟨kg1_0, kg1_1, kg1_2⟩ := bc3 BKg1.out; obtain ⟨fg1_0, fg1_1, fg1_2⟩ := bf3 BKg1.out; (try clear kg5_0 fg5_0); have kg5_0 := bc1 BKg5.out; have fg5_0 := bf1 BKg5.out; (try clear kg2_0 kg2_1 kg2_2 kg2_3 fg2_0 fg2_1 fg2_2 fg2_3); obtain ⟨kg2_0, kg2_1, kg2_2, kg2_3⟩ := bc4 BKg2.out; obtain ⟨fg2_0, fg2_1, fg2_2, fg2_3⟩ := bf4 BKg2.out))
        rw [← e1]
        go_roundg (l4.length - (x + 1).toNat)
        case measure => have := HI.out; have := HK.out; have := of_eq_true hlt; omega
        case rel => exact ⟨x + 1, by first | rfl | rw [HXW.out], ⟨by have := HI.out; omega, by have := of_eq_true hlt; omega⟩, ⟨rfl⟩, ⟨by rw [show (x + 1).toNat = x.toNat + 1 by have := HI.out; omega, show feed_IsShut.prev l4 (x + 1) = some (rd l4 x) by unfold feed_IsShut.prev; rw [if_pos (by have := HI.out; omega), Int.add_sub_cancel]]; exact HN.out⟩, ⟨blkz⟩, ⟨blkz⟩, ⟨blkz⟩, ⟨bel⟩⟩
    ·
     have b1 : decide (x < (l4.length : Int)) = false := decide_eq_false hlt
     have hg := HG.out
     rw [List.drop_eq_nil_of_le (by have := HI.out; omega), feed_IsShut.go1] at hg
     obtain rfl := Option.some.inj hg
     have H := HE.out
     rw [if_pos rfl] at H
     obtain ⟨b, hgo, H⟩ := Option.bind_eq_some_iff.mp H
     cases H
     have HG1 := Aside0.mk hgo
     clear hgo hg hlt HE HG HI HK
     go_wp2
     clear b1
     clear kg1_0 fg1_0 kg1_1 fg1_1 kg1_2 fg1_2 kg5_0 fg5_0 kg2_0 fg2_0 kg2_1 fg2_1 kg2_2 fg2_2 kg2_3 fg2_3
     go_loopg [62] l4.length (fun kq v62 w' => ∃ x : Int, v62 = .int .i64 x ∧ Aside0 (0 ≤ x ∧ x ≤ l4.length) ∧ Aside0 (kq = l4.length - x.toNat) ∧ Aside0 (feed_IsShut.go2 k a0_0 l0_1 l0_2 l3 l4 (l4.drop x.toNat) = some r1) ∧ Aside0 (w'.heap[g1]? = some (.cells #[.int .i64 a0_0, .slice A0_1 l0_1.length c0_1, .slice A0_2 l0_2.length c0_2] 25 (0, 0))) ∧ Aside0 (w'.heap[g5]? = some (.cells #[.slice A4 l4.length c4] 26 (0, 0))) ∧ Aside0 (w'.heap[g2]? = some (.cells #[.int .i64 a0_0, .slice A0_1 l0_1.length c0_1, .slice A0_2 l0_2.length c0_2, .slice A3 l3.length c3] 56 (0, 0))) ∧ Aside0 (Below w.heap.size w w'))
     case atStart => exact ⟨0, rfl, ⟨by omega, by omega⟩, ⟨rfl⟩, HG1, ⟨blkz⟩, ⟨blkz⟩, ⟨blkz⟩, ⟨bel⟩⟩
     case round =>
      clear HG1 BKg1 BKg5 BKg2 HB
      obtain ⟨x, rfl, HI, HK, HG, BKg1, BKg5, BKg2, HB⟩ := hrel
      (try clear kg1_0 kg1_1 kg1_2 fg1_0 fg1_1 fg1_2)
      obtain ⟨kg1_0, kg1_1, kg1_2⟩ := bc3 BKg1.out
      obtain ⟨fg1_0, fg1_1, fg1_2⟩ := bf3 BKg1.out
      (try clear kg5_0 fg5_0)
      have kg5_0 := bc1 BKg5.out
      have fg5_0 := bf1 BKg5.out
      (try clear kg2_0 kg2_1 kg2_2 kg2_3 fg2_0 fg2_1 fg2_2 fg2_3)
      obtain ⟨kg2_0, kg2_1, kg2_2, kg2_3⟩ := bc4 BKg2.out
      obtain ⟨fg2_0, fg2_1, fg2_2, fg2_3⟩ := bf4 BKg2.out
      by_cases hlt : x < (l4.length : Int)
      ·
       have b1 : decide (x < (l4.length : Int)) = true := decide_eq_true hlt
       have p1 : 0 ≤ x := HI.out.1
       have hxl : x.toNat < l4.length := by omega
       have hd : l4.drop x.toNat = rd l4 x :: l4.drop (x.toNat + 1) := by
        rw [show rd l4 x = l4[x.toNat] by simp [rd, List.getD_eq_getElem?_getD, hxl]]; exact List.drop_eq_getElem_cons hxl
       obtain ⟨ad, e1, hx0⟩ := Kd.at_int HR4.out x p1 hlt
       have hg := HG.out
       rw [hd, feed_IsShut.go2] at hg
       obtain ⟨st, A50, hg⟩ := Option.bind_eq_some_iff.mp hg
       have E5 := Aside0.mk A50
       replace hx0 := (HB.out.cell (World.block_lt_of_cell? _ _ hx0)).trans hx0
       have hxw : wrap64 (x + 1) = x + 1 := by unfold wrap64; have := HL4.out; omega
       have HXW := Aside0.mk hxw
       replace p1 := eq_true p1
       replace hlt := eq_true hlt
       clear hd A50 hxw hxl
       by_cases ha : st.any (feed_IsShut.p l4) = true
       ·
        rw [if_pos ha] at hg
        cases hg
        have HP := Aside0.mk ha
        clear ha
        go_wp2_with (first | ((with_reducible refine gate_callee (f := 31) rfl ?_); refine goesL_ (some 68) rfl rfl Tryd.func31 (by kernel_rfl) rfl #[.agg #[.int .i64 a0_0, .slice A0_1 l0_1.length c0_1, .slice A0_2 l0_2.length c0_2, .slice A3 l3.length c3], .int .i64 (rd l4 x)] rfl mapz ?_; (refine (feed_rule_steps.calls k a0_0 _ _ l0_1 _ _ l0_2 _ _ l3 (rd l4 x) st _ ?side1 ?side2 ?side3 ?side4 ?side5 ?side6 ?sideT E5.out).mono ?_); (case side1 => exact cbz HR0_1); (case side2 => exact HC0_1.out); (case side3 => exact cbz HR0_2); (case side4 => exact HC0_2.out); (case side5 => exact cbz HR3); (case side6 => exact HC3.out); (case sideT => first | exact HT.out | exact Tab.Tabs.below HT.out bel); rintro e wz ⟨v68, rfl, ho, hb⟩; refine ⟨_, rfl, ?_⟩; obtain ⟨A68, c68, e68⟩ := Kd.R_slice ho; subst e68; have HO := Aside0.mk ho; clear ho; replace BKg1 := Aside0.mk (blk_below (g := g1) blkz hb); replace BKg5 := Aside0.mk (blk_below (g := g5) blkz hb); replace BKg2 := Aside0.mk (blk_below (g := g2) blkz hb); replace HB := Aside0.mk (below_step bel hb); (try clear hb); (try clear kg1_0 kg1_1 kg1_2 fg1_0 fg1_1 fg1_2); obtain ⟨kg1_0, kg1_1, kg1_2⟩ := bc3 BKg1.out; obtain ⟨fg1_0, fg1_1, fg1_2⟩ := bf3 BKg1.out; (try clear kg5_0 fg5_0); have kg5_0 := bc1 BKg5.out; have fg5_0 := bf1 BKg5.out; (try clear kg2_0 kg2_1 kg2_2 kg2_3 fg2_0 fg2_1 fg2_2 fg2_3); obtain ⟨kg2_0, kg2_1, kg2_2, kg2_3⟩ := bc4 BKg2.out; obtain ⟨fg2_0, fg2_1, fg2_2, fg2_3⟩ := bf4 BKg2.out) | ((with_reducible refine gate_callee (f := 30) rfl ?_); refine goesL_ (some 70) rfl rfl Tryd.func30 (by kernel_rfl) rfl #[.slice A68 st.length c68, .func (.func 32) #[] #[.pointer (some ⟨g5, 0, none⟩)]] rfl mapz ?_; (refine (slices_ContainsFunc_int_int.contains 32 #[.pointer (some ⟨g5, 0, none⟩)] (feed_IsShut.p l4) A68 c68 st _ (Kd.R_reads' HO.out).2.2 (Kd.R_reads' HO.out).2.1 feed_IsShut.enter (fun y _ W hb => feed_IsShut.clos l4 g5 A4 c4 y W ((blk_cell (blk_below (g := g5) blkz hb) 0).trans rfl) (Kd.C_below HR4.out (below_step bel hb)) HC4.out)).mono ?_); rintro e wv ⟨rfl, hb⟩; refine ⟨_, rfl, ?_⟩; rw [HP.out]; replace BKg1 := Aside0.mk (blk_below (g := g1) blkz hb); replace BKg5 := Aside0.mk (blk_below (g := g5) blkz hb); replace BKg2 := Aside0.mk (blk_below (g := g2) blkz hb); replace HB := Aside0.mk (below_step bel hb); (try clear hb); (try clear kg1_0 kg1_1 kg1_2 fg1_0 fg1_1 fg1_2); obtain ⟨kg1_0, kg1_1, kg1_2⟩ := bc3 BKg1.out; obtain ⟨fg1_0, fg1_1, fg1_2⟩ := bf3 BKg1.out; (try clear kg5_0 fg5_0); have kg5_0 := bc1 BKg5.out; have fg5_0 := bf1 BKg5.out; (try clear kg2_0 kg2_1 kg2_2 kg2_3 fg2_0 fg2_1 fg2_2 fg2_3); obtain ⟨kg2_0, kg2_1, kg2_2, kg2_3⟩ := bc4 BKg2.out; obtain ⟨fg2_0, fg2_1, fg2_2, fg2_3⟩ := bf4 BKg2.out))
        go_ret2
        exact ⟨rfl, bel⟩
       ·
        rw [if_neg ha] at hg
        have HP := Aside0.mk (Bool.eq_false_iff.mpr ha)
        have HN := Aside0.mk hg
        clear ha hg
        go_wp2_with (first | ((with_reducible refine gate_callee (f := 31) rfl ?_); refine goesL_ (some 68) rfl rfl Tryd.func31 (by kernel_rfl) rfl #[.agg #[.int .i64 a0_0, .slice A0_1 l0_1.length c0_1, .slice A0_2 l0_2.length c0_2, .slice A3 l3.length c3], .int .i64 (rd l4 x)] rfl mapz ?_; (refine (feed_rule_steps.calls k a0_0 _ _ l0_1 _ _ l0_2 _ _ l3 (rd l4 x) st _ ?side1 ?side2 ?side3 ?side4 ?side5 ?side6 ?sideT E5.out).mono ?_); (case side1 => exact cbz HR0_1); (case side2 => exact HC0_1.out); (case side3 => exact cbz HR0_2); (case side4 => exact HC0_2.out); (case side5 => exact cbz HR3); (case side6 => exact HC3.out); (case sideT => first | exact HT.out | exact Tab.Tabs.below HT.out bel); rintro e wz ⟨v68, rfl, ho, hb⟩; refine ⟨_, rfl, ?_⟩; obtain ⟨A68, c68, e68⟩ := Kd.R_slice ho; subst e68; have HO := Aside0.mk ho; clear ho; replace BKg1 := Aside0.mk (blk_below (g := g1) blkz hb); replace BKg5 := Aside0.mk (blk_below (g := g5) blkz hb); replace BKg2 := Aside0.mk (blk_below (g := g2) blkz hb); replace HB := Aside0.mk (below_step bel hb); (try clear hb); (try clear kg1_0 kg1_1 kg1_2 fg1_0 fg1_1 fg1_2); obtain ⟨kg1_0, kg1_1, kg1_2⟩ := bc3 BKg1.out; obtain ⟨fg1_0, fg1_1, fg1_2⟩ := bf3 BKg1.out; (try clear kg5_0 fg5_0); have kg5_0 := bc1 BKg5.out; have fg5_0 := bf1 BKg5.out; (try clear kg2_0 kg2_1 kg2_2 kg2_3 fg2_0 fg2_1 fg2_2 fg2_3); obtain ⟨kg2_0, kg2_1, kg2_2, kg2_3⟩ := bc4 BKg2.out; obtain ⟨fg2_0, fg2_1, fg2_2, fg2_3⟩ := bf4 BKg2.out) | ((with_reducible refine gate_callee (f := 30) rfl ?_); refine goesL_ (some 70) rfl rfl Tryd.func30 (by kernel_rfl) rfl #[.slice A68 st.length c68, .func (.func 32) #[] #[.pointer (some ⟨g5, 0, none⟩)]] rfl mapz ?_; (refine (slices_ContainsFunc_int_int.contains 32 #[.pointer (some ⟨g5, 0, none⟩)] (feed_IsShut.p l4) A68 c68 st _ (Kd.R_reads' HO.out).2.2 (Kd.R_reads' HO.out).2.1 feed_IsShut.enter (fun y _ W hb => feed_IsShut.clos l4 g5 A4 c4 y W ((blk_cell (blk_below (g := g5) blkz hb) 0).trans rfl) (Kd.C_below HR4.out (below_step bel hb)) HC4.out)).mono ?_); rintro e wv ⟨rfl, hb⟩; refine ⟨_, rfl, ?_⟩; rw [HP.out]; replace BKg1 := Aside0.mk (blk_below (g := g1) blkz hb); replace BKg5 := Aside0.mk (blk_below (g := g5) blkz hb); replace BKg2 := Aside0.mk (blk_below (g := g2) blkz hb); replace HB := Aside0.mk (below_step bel hb); (try clear hb); (try clear kg1_0 kg1_1 kg1_2 fg1_0 fg1_1 fg1_2); obtain ⟨kg1_0, kg1_1, kg1_2⟩ := bc3 BKg1.out; obtain ⟨fg1_0, fg1_1, fg1_2⟩ := bf3 BKg1.out; (try clear kg5_0 fg5_0); have kg5_0 := bc1 BKg5.out; have fg5_0 := bf1 BKg5.out; (try clear kg2_0 kg2_1 kg2_2 kg2_3 fg2_0 fg2_1 fg2_2 fg2_3); obtain ⟨kg2_0, kg2_1, kg2_2, kg2_3⟩ := bc4 BKg2.out; obtain ⟨fg2_0, fg2_1, fg2_2, fg2_3⟩ := bf4 BKg2.out))
        rw [← e1]
        go_roundg (l4.length - (x + 1).toNat)
        case measure => have := HI.out; have := HK.out; have := of_eq_true hlt; omega
        case rel => exact ⟨x + 1, by first | rfl | rw [HXW.out], ⟨by have := HI.out; omega, by have := of_eq_true hlt; omega⟩, ⟨rfl⟩, ⟨by rw [show (x + 1).toNat = x.toNat + 1 by have := HI.out; omega]; exact HN.out⟩, ⟨blkz⟩, ⟨blkz⟩, ⟨blkz⟩, ⟨bel⟩⟩
      ·
       have b1 : decide (x < (l4.length : Int)) = false := decide_eq_false hlt
       have hg := HG.out
       rw [List.drop_eq_nil_of_le (by have := HI.out; omega), feed_IsShut.go2] at hg
       obtain rfl := Option.some.inj hg
       clear hlt hg HG HI HK
       go_wp2
       go_ret2
       exact ⟨rfl, bel⟩
  ·
   rw [if_neg c1] at H
   have b0 : (te != 0) = true := bne_iff_ne.mpr c1
   clear c1
   cases H
   go_wp2_with (first | ((with_reducible refine gate_callee (f := 27) rfl ?_); refine goesL_ (some 19) rfl rfl Tryd.func27 (by kernel_rfl) rfl #[.agg #[.int .i64 a0_0, .slice A0_1 l0_1.length c0_1, .slice A0_2 l0_2.length c0_2]] rfl mapz ?_; (refine (feed_Valid.calls a0_0 _ _ l0_1 _ _ l0_2 _ _ ?side1 ?side2 ?side3 ?side4 E1.out).mono ?_); (case side1 => exact cbz HR0_1); (case side2 => exact HC0_1.out); (case side3 => exact cbz HR0_2); (case side4 => exact HC0_2.out); rintro e wz ⟨rfl, hb⟩; refine ⟨_, rfl, ?_⟩; replace BKg1 := Aside0.mk (blk_below (g := g1) blkz hb); replace BKg5 := Aside0.mk (blk_below (g := g5) blkz hb); replace BKg2 := Aside0.mk (blk_below (g := g2) blkz hb); replace HB := Aside0.mk (below_step bel hb); (try clear hb); (try clear kg1_0 kg1_1 kg1_2 fg1_0 fg1_1 fg1_2); obtain ⟨kg1_0, kg1_1, kg1_2⟩ := bc3 BKg1.out; obtain ⟨fg1_0, fg1_1, fg1_2⟩ := bf3 BKg1.out; (try clear kg5_0 fg5_0); have kg5_0 := bc1 BKg5.out; have fg5_0 := bf1 BKg5.out; (try clear kg2_0 kg2_1 kg2_2 kg2_3 fg2_0 fg2_1 fg2_2 fg2_3); obtain ⟨kg2_0, kg2_1, kg2_2, kg2_3⟩ := bc4 BKg2.out; obtain ⟨fg2_0, fg2_1, fg2_2, fg2_3⟩ := bf4 BKg2.out) | ((with_reducible refine gate_callee (f := 28) rfl ?_); refine goesL_ (some 22) rfl rfl Tryd.func28 (by kernel_rfl) rfl #[.agg #[.int .i64 a0_0, .slice A0_1 l0_1.length c0_1, .slice A0_2 l0_2.length c0_2, .slice A3 l3.length c3]] rfl mapz ?_; (refine (feed_rule_kept.calls k a0_0 _ _ l0_1 _ _ l0_2 _ _ l3 _ _ ?side1 ?side2 ?side3 ?side4 ?side5 ?side6 E2.out).mono ?_); (case side1 => exact cbz HR0_1); (case side2 => exact HC0_1.out); (case side3 => exact cbz HR0_2); (case side4 => exact HC0_2.out); (case side5 => exact cbz HR3); (case side6 => exact HC3.out); rintro e wz ⟨rfl, hb⟩; refine ⟨_, rfl, ?_⟩; replace BKg1 := Aside0.mk (blk_below (g := g1) blkz hb); replace BKg5 := Aside0.mk (blk_below (g := g5) blkz hb); replace BKg2 := Aside0.mk (blk_below (g := g2) blkz hb); replace HB := Aside0.mk (below_step bel hb); (try clear hb); (try clear kg1_0 kg1_1 kg1_2 fg1_0 fg1_1 fg1_2); obtain ⟨kg1_0, kg1_1, kg1_2⟩ := bc3 BKg1.out; obtain ⟨fg1_0, fg1_1, fg1_2⟩ := bf3 BKg1.out; (try clear kg5_0 fg5_0); have kg5_0 := bc1 BKg5.out; have fg5_0 := bf1 BKg5.out; (try clear kg2_0 kg2_1 kg2_2 kg2_3 fg2_0 fg2_1 fg2_2 fg2_3); obtain ⟨kg2_0, kg2_1, kg2_2, kg2_3⟩ := bc4 BKg2.out; obtain ⟨fg2_0, fg2_1, fg2_2, fg2_3⟩ := bf4 BKg2.out))
   go_ret2
   exact ⟨rfl, bel⟩

/-! ### droppertop_holds: function 12 -/
def droppertop_holds.l0 : Nat → List Int → Int → Int → Option (Bool)
 | 0, _, _, _ => none
 | k + 1, x0, x1, x5 => if x5 < (x0.length : Int) then (if 0 ≤ x5 then (if (rd x0 x5) = x1 then (some true) else (droppertop_holds.l0 k x0 x1 (wrap64 (x5 + 1)))) else (none)) else (some false)
def droppertop_holds.f (k : Nat) (l0 : List Int) (a1 : Int) : Option (Bool) := droppertop_holds.l0 k l0 a1 0
set_option maxHeartbeats 8000000 in
set_option maxRecDepth 100000 in
theorem droppertop_holds.calls (k : Nat) (A0 : Option Addr) (c0 : Nat) (l0 : List Int) (a1 : Int) (r : Bool) (w : World) (hr0 : Kd.C (Kd.int .i64) w A0 l0.length l0) (hc0 : l0.length ≤ c0) (h : droppertop_holds.f k l0 a1 = some r) :
  Calls Tryd.prog 12 #[.slice A0 l0.length c0, .int .i64 a1] w fun e w' => e = .returned (.bool r) ∧ Drawn0 w w' := by
 have HR0 := Aside0.mk hr0
 have HC0 := Aside0.mk hc0
 clear hr0 hc0
 have H : (droppertop_holds.l0 k l0 a1 0) = some r := h
 clear h
 have H' := Aside0.mk H
 clear H
 go_enter Tryd.func12, Tryd.ntmps12
 go_wp2
 go_loopg [5] k (fun kq v5 w' => ∃ (x5_1 : Int), v5 = .int .i64 x5_1 ∧ Aside0 (droppertop_holds.l0 kq l0 a1 x5_1 = some r) ∧ Aside0 (kq ≤ k) ∧ Drawn0 w w')
 case atStart => exact ⟨(0), rsz, H', ⟨Nat.le_refl _⟩, drz⟩
 case round =>
  clear H'
  (try clear c1); (try clear p2)
  obtain ⟨x5_1, rfl, HA, HK1, ⟨m1, rfl⟩⟩ := hrel
  cases gk with
  | zero => exact absurd HA.out (by simp [droppertop_holds.l0])
  | succ k1 =>
   have H := HA.out
   clear HA
   simp only [droppertop_holds.l0] at H
   by_cases c3 : x5_1 < (l0.length : Int)
   ·
    rw [if_pos c3] at H
    have c3b0 : decide (x5_1 < (l0.length : Int)) = true := decide_eq_true c3
    clear c3
    by_cases c4 : 0 ≤ x5_1
    ·
     rw [if_pos c4] at H
     have c4b0 : decide (0 ≤ x5_1) = true := decide_eq_true c4
     clear c4
     by_cases c5 : (rd l0 x5_1) = a1
     ·
      rw [if_pos c5] at H
      have c5b0 : ((rd l0 x5_1) == a1) = true := beq_iff_eq.mpr c5
      have c5b1 : ((rd l0 x5_1) != a1) = false := bne_eq_false_iff_eq.mpr c5
      clear c5
      obtain rfl := Option.some.inj H
      have p294 : 0 ≤ (x5_1 : Int) := of_decide_eq_true asz
      have q294 : x5_1 < (l0.length : Int) := of_decide_eq_true asz
      obtain ⟨ad294, e294, hx294_0⟩ := Kd.at_int HR0.out x5_1 p294 q294
      cases e294
      replace p294 := eq_true p294
      replace q294 := eq_true q294
      go_wp2
      go_ret
      exact ⟨by first | rfl | (simp; done) | (simp [*]; done), drz⟩
     ·
      rw [if_neg c5] at H
      have c5b0 : ((rd l0 x5_1) == a1) = false := beq_eq_false_iff_ne.mpr c5
      have c5b1 : ((rd l0 x5_1) != a1) = true := bne_iff_ne.mpr c5
      have H' := Aside0.mk H
      clear H
      have p294 : 0 ≤ (x5_1 : Int) := of_decide_eq_true asz
      have q294 : x5_1 < (l0.length : Int) := of_decide_eq_true asz
      obtain ⟨ad294, e294, hx294_0⟩ := Kd.at_int HR0.out x5_1 p294 q294
      cases e294
      replace p294 := eq_true p294
      replace q294 := eq_true q294
      go_wp2
      go_roundg k1
      case measure => have := HK1.out; omega
      case rel => exact ⟨(wrap64 (x5_1 + 1)), rsz, H', ⟨by have := HK1.out; omega⟩, drz⟩
    ·
     rw [if_neg c4] at H
     exact absurd H (by simp)
   ·
    rw [if_neg c3] at H
    have c3b0 : decide (x5_1 < (l0.length : Int)) = false := decide_eq_false c3
    clear c3
    obtain rfl := Option.some.inj H
    go_wp2
    go_ret
    exact ⟨by first | rfl | (simp; done) | (simp [*]; done), drz⟩

/-! ### feed_grid_switches: function 38 -/
theorem feed_grid_switches.within_calls (a b c : Int) (w : World) :
  Calls Tryd.prog 25 #[.int .i64 a, .int .i64 b, .int .i64 c] w fun e w' => e = .returned (.bool (decide (a ≤ b) && decide (b ≤ c))) ∧ Drawn0 w w' := by
 by_cases h1 : a ≤ b
 ·
  have h1' : decide (a ≤ b) = true := decide_eq_true h1
  go_enter Tryd.func25, Tryd.ntmps25
  go_wp2
  go_ret
  exact ⟨by simp [h1], Drawn0.refl _⟩
 ·
  have h1' : decide (a ≤ b) = false := decide_eq_false h1
  go_enter Tryd.func25, Tryd.ntmps25
  go_wp2
  go_ret
  exact ⟨by simp [h1], Drawn0.refl _⟩
def feed_grid_switches.bad (n : Int) (x : Int) : Bool := !(decide (0 ≤ x) && decide (x ≤ wrap64 (n - 1)))
set_option maxHeartbeats 2000000 in
set_option maxRecDepth 100000 in
theorem feed_grid_switches.clos (n : Int) (g : Nat) (A : Option Addr) (len c : Nat) (x : Int) (w : World) (hn : n = (len : Int)) (hcap : w.cell? ⟨g, 1, none⟩ = some (.slice A len c)) :
  Calls Tryd.prog 57 #[.int .i64 x, .pointer (some ⟨g, 0, none⟩)] w fun e w' => e = .returned (.bool (feed_grid_switches.bad n x)) ∧ Below w.heap.size w w' := by
 subst hn
 have hu0 := Tryd.underlying54
 have hu1 := Tryd.underlying25
 by_cases h0 : (decide (0 ≤ x) && decide (x ≤ wrap64 ((len : Int) - 1))) = true
 ·
  skip
  have hE : Aside0 ((feed_grid_switches.bad (len : Int) x) = false) := ⟨by simp only [feed_grid_switches.bad, h0, Bool.not_true, Bool.false_or]⟩
  have H0 := Aside0.mk h0
  clear h0
  go_enter Tryd.func57, Tryd.ntmps57
  go_wp2_with (first | (go_at_call 25; (with_reducible refine (feed_grid_switches.within_calls 0 x (wrap64 ((len : Int) - 1)) _).mono ?_); rintro e w' ⟨rfl, ⟨nd_, rfl⟩⟩; rw [H0.out]))
  go_ret
  exact ⟨by rw [hE.out]; rfl, by repeat (first | exact Below.refl _ _ | apply pw_below_drewN)⟩
 ·
  replace h0 := Bool.eq_false_iff.mpr h0
  have hE : Aside0 ((feed_grid_switches.bad (len : Int) x) = true) := ⟨by simp only [feed_grid_switches.bad, h0, Bool.not_true, Bool.not_false, Bool.false_or, Bool.true_or]⟩
  have H0 := Aside0.mk h0
  clear h0
  go_enter Tryd.func57, Tryd.ntmps57
  go_wp2_with (first | (go_at_call 25; (with_reducible refine (feed_grid_switches.within_calls 0 x (wrap64 ((len : Int) - 1)) _).mono ?_); rintro e w' ⟨rfl, ⟨nd_, rfl⟩⟩; rw [H0.out]))
  go_ret
  exact ⟨by rw [hE.out]; rfl, by repeat (first | exact Below.refl _ _ | apply pw_below_drewN)⟩
theorem feed_grid_switches.enter (vs : Array Value) (W : World) : (callFunc 57 vs).run Tryd.prog W = .ok (.enter 57 vs) W := enters_ Tryd.func57 (by kernel_rfl) (by kernel_rfl) vs W
def feed_grid_switches.f (a0_0 : Int) (l0_1 : List S47) (l0_2 : List S49) (l1 : List Int) : Option Bool := some (decide ((l1.length : Int) ≤ 1000) && !(l1.any (feed_grid_switches.bad (l0_1.length : Int))))
set_option maxHeartbeats 4000000 in
set_option maxRecDepth 100000 in
theorem feed_grid_switches.calls (a0_0 : Int) (A0_1 : Option Addr) (c0_1 : Nat) (l0_1 : List S47) (A0_2 : Option Addr) (c0_2 : Nat) (l0_2 : List S49) (A1 : Option Addr) (c1 : Nat) (l1 : List Int) (r : Bool) (w : World) (hr0_1 : Kd.C k47 w A0_1 l0_1.length l0_1) (hc0_1 : l0_1.length ≤ c0_1) (hr0_2 : Kd.C k49 w A0_2 l0_2.length l0_2) (hc0_2 : l0_2.length ≤ c0_2) (hr1 : Kd.C (Kd.int .i64) w A1 l1.length l1) (hc1 : l1.length ≤ c1) (h : feed_grid_switches.f a0_0 l0_1 l0_2 l1 = some r) :
  Calls Tryd.prog 38 #[.agg #[.int .i64 a0_0, .slice A0_1 l0_1.length c0_1, .slice A0_2 l0_2.length c0_2], .slice A1 l1.length c1] w fun e w' => e = .returned (.bool r) ∧ Below w.heap.size w w' := by
 have hu := Tryd.underlying25
 have hu2 := Tryd.underlying54
 have hl1 : l1.length ≤ 9223372036854775807 := hr1.2.1
 have HR1 := Aside0.mk hr0_1
 have HR2 := Aside0.mk hr0_2
 clear hr0_1 hr0_2
 have HR := Aside0.mk hr1
 clear hr1
 have hB0 : Aside0 (Below w.heap.size w (w.alloc (.cells #[.int .i64 a0_0, .slice A0_1 l0_1.length c0_1, .slice A0_2 l0_2.length c0_2] 54))) := ⟨below_alloc (Below.refl _ _) _⟩
 have hB1 : Aside0 (Below (w.alloc (.cells #[.int .i64 a0_0, .slice A0_1 l0_1.length c0_1, .slice A0_2 l0_2.length c0_2] 54)).heap.size (w.alloc (.cells #[.int .i64 a0_0, .slice A0_1 l0_1.length c0_1, .slice A0_2 l0_2.length c0_2] 54)) (w.alloc (.cells #[.int .i64 a0_0, .slice A0_1 l0_1.length c0_1, .slice A0_2 l0_2.length c0_2] 54))) := ⟨Below.refl _ _⟩
 have hcell : Aside0 (∀ W, Below (w.alloc (.cells #[.int .i64 a0_0, .slice A0_1 l0_1.length c0_1, .slice A0_2 l0_2.length c0_2] 54)).heap.size (w.alloc (.cells #[.int .i64 a0_0, .slice A0_1 l0_1.length c0_1, .slice A0_2 l0_2.length c0_2] 54)) W → ∀ j, W.cell? ⟨w.heap.size, j, none⟩ = (#[.int .i64 a0_0, .slice A0_1 l0_1.length c0_1, .slice A0_2 l0_2.length c0_2] : Array Value)[j]?) := ⟨fun W hb j => by
  rw [hb.cell (by show w.heap.size < (w.heap.push _).size; rw [Array.size_push]; omega), World.cell?_alloc_at _ _ _ _ rfl]⟩
 obtain rfl := Option.some.inj h
 clear h
 by_cases h2 : (l1.length : Int) ≤ 1000
 ·
  rw [decide_eq_true h2, Bool.true_and]
  have k2 : decide ((l1.length : Int) ≤ 1000) = true := decide_eq_true h2
  clear h2
  by_cases h3 : l1.any (feed_grid_switches.bad (l0_1.length : Int)) = true
  ·
   rw [h3]
   have H3 := Aside0.mk h3
   clear h3
   go_enter Tryd.func38, Tryd.ntmps38
   go_wp2_with (go_at_call 30; (refine (slices_ContainsFunc_int_int.contains 57 #[.pointer (some ⟨w.heap.size, 0, none⟩)] (feed_grid_switches.bad (l0_1.length : Int)) A1 c1 l1 _ (Kd.C_below HR.out hB0.out) hc1 feed_grid_switches.enter (fun x _ W hb => feed_grid_switches.clos _ w.heap.size A0_1 l0_1.length c0_1 x W rfl (hcell.out W (below_step hB1.out hb) 1))).mono ?_); rintro e w' ⟨rfl, hb⟩; have HB := Aside0.mk (below_step hB0.out hb); clear hb; rw [H3.out])
   go_ret
   exact ⟨rfl, HB.out⟩
  ·
   replace h3 := Bool.eq_false_iff.mpr h3
   rw [h3]
   have H3 := Aside0.mk h3
   clear h3
   go_enter Tryd.func38, Tryd.ntmps38
   go_wp2_with (go_at_call 30; (refine (slices_ContainsFunc_int_int.contains 57 #[.pointer (some ⟨w.heap.size, 0, none⟩)] (feed_grid_switches.bad (l0_1.length : Int)) A1 c1 l1 _ (Kd.C_below HR.out hB0.out) hc1 feed_grid_switches.enter (fun x _ W hb => feed_grid_switches.clos _ w.heap.size A0_1 l0_1.length c0_1 x W rfl (hcell.out W (below_step hB1.out hb) 1))).mono ?_); rintro e w' ⟨rfl, hb⟩; have HB := Aside0.mk (below_step hB0.out hb); clear hb; rw [H3.out])
   go_ret
   exact ⟨rfl, HB.out⟩
 ·
  rw [decide_eq_false h2, Bool.false_and]
  have k2 : decide ((l1.length : Int) ≤ 1000) = false := decide_eq_false h2
  clear h2
  go_enter Tryd.func38, Tryd.ntmps38
  go_wp2
  go_ret
  exact ⟨rfl, hB0.out⟩

/-! ### feed_After: function 15 -/
def feed_After.l0 : Nat → Int → List Int → Int → Int → Option (Int × Int)
 | 0, _, _, _, _ => none
 | k + 1, x1, x27, x28, x29 => if x29 < x28 then (if 0 ≤ x29 then (if x29 < (x27.length : Int) then (if 0 ≤ (rd x27 x29) then (feed_After.l0 k (Go.bits .xor .i64 x1 (shl .i64 1 (rd x27 x29))) x27 x28 (wrap64 (x29 + 1))) else (none)) else (none)) else (none)) else (some (x1, 0))
def feed_After.f (k : Nat) (a0_0 : Int) (l0_1 : List (S47)) (l0_2 : List (S49)) (a1 : Int) (l2 : List Int) : Option (Int × Int) := (feed_open.f a0_0 l0_1 l0_2 a1).bind fun bt296 => (if bt296.2 = 0 then ((feed_grid_switches.f bt296.1 l0_1 l0_2 l2).bind fun t305 => (if t305 = true then (feed_After.l0 k a1 l2 (l2.length : Int) 0) else (some (0, 2)))) else (some (0, bt296.2)))
set_option maxHeartbeats 8000000 in
set_option maxRecDepth 100000 in
theorem feed_After.calls (k : Nat) (a0_0 : Int) (A0_1 : Option Addr) (c0_1 : Nat) (l0_1 : List (S47)) (A0_2 : Option Addr) (c0_2 : Nat) (l0_2 : List (S49)) (a1 : Int) (A2 : Option Addr) (c2 : Nat) (l2 : List Int) (r1 : Int) (r2 : Int) (w : World) (hr0_1 : Kd.C k47 w A0_1 l0_1.length l0_1) (hc0_1 : l0_1.length ≤ c0_1) (hr0_2 : Kd.C k49 w A0_2 l0_2.length l0_2) (hc0_2 : l0_2.length ≤ c0_2) (hr2 : Kd.C (Kd.int .i64) w A2 l2.length l2) (hc2 : l2.length ≤ c2) (h : feed_After.f k a0_0 l0_1 l0_2 a1 l2 = some (r1, r2)) :
  Calls Tryd.prog 15 #[.agg #[.int .i64 a0_0, .slice A0_1 l0_1.length c0_1, .slice A0_2 l0_2.length c0_2], .int .i64 a1, .slice A2 l2.length c2] w fun e w' => e = .returned (.tuple #[.int .i64 r1, .int .i64 r2]) ∧ Below w.heap.size w w' := by
 have hu25 := Tryd.underlying25
 have hu54 := Tryd.underlying54
 have HR0_1 := Aside0.mk hr0_1
 have HC0_1 := Aside0.mk hc0_1
 clear hr0_1 hc0_1
 have HR0_2 := Aside0.mk hr0_2
 have HC0_2 := Aside0.mk hc0_2
 clear hr0_2 hc0_2
 have HR2 := Aside0.mk hr2
 have HC2 := Aside0.mk hc2
 clear hr2 hc2
 have HB := Aside0.mk (Below.refl w.heap.size w)
 have H : ((feed_open.f a0_0 l0_1 l0_2 a1).bind fun bt296 => (if bt296.2 = 0 then ((feed_grid_switches.f bt296.1 l0_1 l0_2 l2).bind fun t305 => (if t305 = true then (feed_After.l0 k a1 l2 (l2.length : Int) 0) else (some (0, 2)))) else (some (0, bt296.2)))) = some (r1, r2) := h
 clear h
 replace H := Option.bind_eq_some_iff.mp H
 obtain ⟨⟨t296, t303⟩, A40, H⟩ := H
 try dsimp only at H
 have A4 := Aside0.mk A40
 clear A40
 by_cases c5 : t303 = 0
 ·
  rw [if_pos c5] at H
  have c5b0 : (t303 == 0) = true := beq_iff_eq.mpr c5
  have c5b1 : (t303 != 0) = false := bne_eq_false_iff_eq.mpr c5
  clear c5
  replace H := Option.bind_eq_some_iff.mp H
  obtain ⟨t305, A60, H⟩ := H
  try dsimp only at H
  have A6 := Aside0.mk A60
  clear A60
  by_cases c7 : t305 = true
  ·
   subst c7
   rw [if_pos rfl] at H
   have H' := Aside0.mk H
   clear H
   go_enter Tryd.func15, Tryd.ntmps15
   go_wp2_with (first | ((with_reducible refine gate_dst (N := 3) rfl ?_); refine box_event ?hg (N := 3) ?hd (cs := #[.int .i64 a0_0, .slice A0_1 l0_1.length c0_1, .slice A0_2 l0_2.length c0_2]) (t := 25) ?hr ?_; (case hd => rfl); (case hg => rfl); (case hr => first | (go_simp; done) | (go_simp; rfl)); intro gb295 hg w8 hbox hb; have BK295 := Aside0.mk (hbox); have GW295 := bsz (w := w) hg; have GE295 := GW295; replace HB := Aside0.mk (below_step bel hb); clear hb hbox hg; obtain ⟨hcz9_0, hcz9_1, hcz9_2⟩ := bc3 BK295.out) | ((with_reducible refine gate_callee (f := 37) rfl ?_); refine goesL_ (some 15) rfl rfl Tryd.func37 (by kernel_rfl) rfl #[.agg #[.int .i64 a0_0, .slice A0_1 l0_1.length c0_1, .slice A0_2 l0_2.length c0_2], .int .i64 a1] rfl mapz ?_; (with_reducible refine (feed_open.calls a0_0 _ _ l0_1 _ _ l0_2 a1 t296 t303 _ (cbz HR0_1) HC0_1.out (cbz HR0_2) HC0_2.out A4.out).mono ?_); rintro e w10 ⟨rfl, hb⟩; refine ⟨_, rfl, ?_⟩; replace BK295 := Aside0.mk (blk_below (g := gb295) blkz hb); replace HB := Aside0.mk (below_step bel hb); clear hb) | ((with_reducible refine gate_dst (N := 8) rfl ?_); refine box_event ?hg (N := 8) ?hd (cs := #[.int .i64 0, .slice none 0 0, .slice none 0 0]) (t := 54) ?hr ?_; (case hd => rfl); (case hg => rfl); (case hr => first | (go_simp; done) | (go_simp; rfl)); intro gb304 hg w11 hbox hb; have BK304 := Aside0.mk (hbox); have GW304 := bsz (w := w) hg; have GE304 := GW304; have NB295_304 := neL (g := gb295) hg; have NB304_295 := neR (g := gb295) hg; replace BK295 := Aside0.mk (blk_below (g := gb295) blkz hb); replace HB := Aside0.mk (below_step bel hb); clear hb hbox hg; have hnb12 := NB304_295.out; have hnc12 := NB295_304.out; obtain ⟨hcz13_0, hcz13_1, hcz13_2⟩ := bc3 BK304.out; obtain ⟨hfz13_0, hfz13_1, hfz13_2⟩ := bf3 BK304.out) | ((with_reducible refine gate_callee (f := 38) rfl ?_); refine goesL_ (some 25) rfl rfl Tryd.func38 (by kernel_rfl) rfl #[.agg #[.int .i64 t296, .slice A0_1 l0_1.length c0_1, .slice A0_2 l0_2.length c0_2], .slice A2 l2.length c2] rfl mapz ?_; (with_reducible refine (feed_grid_switches.calls t296 _ _ l0_1 _ _ l0_2 _ _ l2 true _ (cbz HR0_1) HC0_1.out (cbz HR0_2) HC0_2.out (cbz HR2) HC2.out A6.out).mono ?_); rintro e w14 ⟨rfl, hb⟩; refine ⟨_, rfl, ?_⟩; replace BK295 := Aside0.mk (blk_below (g := gb295) (o := .cells #[.int .i64 a0_0, .slice A0_1 l0_1.length c0_1, .slice A0_2 l0_2.length c0_2] 25 (0, 0)) (by (with_reducible repeat (first | refine blk_drewN ?_ _ | refine blk_drew ?_ | refine blk_alloc ?_ _)); refine blk_far ?_ NB295_304.out _; (with_reducible repeat (first | refine blk_drewN ?_ _ | refine blk_drew ?_ | refine blk_alloc ?_ _)); refine blk_far ?_ NB295_304.out _; (with_reducible repeat (first | refine blk_drewN ?_ _ | refine blk_drew ?_ | refine blk_alloc ?_ _)); refine blk_far ?_ NB295_304.out _; (with_reducible repeat (first | refine blk_drewN ?_ _ | refine blk_drew ?_ | refine blk_alloc ?_ _)); exact BK295.out) hb); replace BK304 := Aside0.mk (blk_below (g := gb304) (o := .cells #[.int .i64 t296, .slice A0_1 l0_1.length c0_1, .slice A0_2 l0_2.length c0_2] 54 (0, 0)) (by (with_reducible repeat (first | refine blk_drewN ?_ _ | refine blk_drew ?_ | refine blk_alloc ?_ _)); refine blk_put (cs := #[.int .i64 t296, .slice A0_1 l0_1.length c0_1, .slice none 0 0]) ?_ 2 _ rfl; (with_reducible repeat (first | refine blk_drewN ?_ _ | refine blk_drew ?_ | refine blk_alloc ?_ _)); refine blk_put (cs := #[.int .i64 t296, .slice none 0 0, .slice none 0 0]) ?_ 1 _ rfl; (with_reducible repeat (first | refine blk_drewN ?_ _ | refine blk_drew ?_ | refine blk_alloc ?_ _)); refine blk_put (cs := #[.int .i64 0, .slice none 0 0, .slice none 0 0]) ?_ 0 _ rfl; (with_reducible repeat (first | refine blk_drewN ?_ _ | refine blk_drew ?_ | refine blk_alloc ?_ _)); exact BK304.out) hb); replace HB := Aside0.mk (below_step bel hb); clear hb))
   go_loopg [1, 29] k (fun kq v1 v29 w' => ∃ (x1_1 : Int) (x29_1 : Int), v1 = .int .i64 x1_1 ∧ v29 = .int .i64 x29_1 ∧ Aside0 (feed_After.l0 kq x1_1 l2 (l2.length : Int) x29_1 = some (r1, r2)) ∧ Aside0 (kq ≤ k) ∧ Aside0 (w'.heap[gb295]? = some (.cells #[.int .i64 a0_0, (.slice A0_1 l0_1.length c0_1), (.slice A0_2 l0_2.length c0_2)] 25 (0, 0))) ∧ Aside0 (w'.heap[gb304]? = some (.cells #[.int .i64 t296, (.slice A0_1 l0_1.length c0_1), (.slice A0_2 l0_2.length c0_2)] 54 (0, 0))) ∧ Aside0 (Below w.heap.size w w'))
   case atStart => exact ⟨(a1), (0), rsz, rsz, H', ⟨Nat.le_refl _⟩, ⟨blkz⟩, ⟨blkz⟩, ⟨bel⟩⟩
   case round =>
    clear H'
    (try clear c1); (try clear c2); (try clear p2); (try clear c3); (try clear c5); (try clear c5b0); (try clear c5b1); (try clear c7); (try clear c12); (try clear hcz13_0); (try clear hcz13_1); (try clear hcz13_2); (try clear hcz9_0); (try clear hcz9_1); (try clear hcz9_2); (try clear hfz13_0); (try clear hfz13_1); (try clear hfz13_2); (try clear hfz9_0); (try clear hfz9_1); (try clear hfz9_2)
    obtain ⟨x1_1, x29_1, rfl, rfl, HA, HK1, BK295, BK304, HB⟩ := hrel
    cases gk with
    | zero => exact absurd HA.out (by simp [feed_After.l0])
    | succ k1 =>
     have H := HA.out
     clear HA
     simp only [feed_After.l0] at H
     by_cases c15 : x29_1 < (l2.length : Int)
     ·
      rw [if_pos c15] at H
      have c15b0 : decide (x29_1 < (l2.length : Int)) = true := decide_eq_true c15
      clear c15
      by_cases c16 : 0 ≤ x29_1
      ·
       rw [if_pos c16] at H
       have c16b0 : decide (0 ≤ x29_1) = true := decide_eq_true c16
       clear c16
       by_cases c17 : x29_1 < (l2.length : Int)
       ·
        rw [if_pos c17] at H
        have c17b0 : decide (x29_1 < (l2.length : Int)) = true := decide_eq_true c17
        clear c17
        by_cases c18 : 0 ≤ (rd l2 x29_1)
        ·
         rw [if_pos c18] at H
         have c18b0 := eq_true c18
         have c18b1 : decide (0 ≤ (rd l2 x29_1)) = true := decide_eq_true c18
         clear c18
         obtain ⟨ji19, hji19⟩ : ∃ j_ : Int, (shl .i64 1 (rd l2 x29_1)) = j_ := ⟨_, rfl⟩
         replace H : (feed_After.l0 k1 (Go.bits .xor .i64 x1_1 (ji19)) l2 (l2.length : Int) (wrap64 (x29_1 + 1))) = some (r1, r2) := by first | (rw [hji19] at H; exact H) | (simp only [hji19] at H ⊢; exact H)
         have hji19_ : (IntKind.i64.wrap (1 * 2 ^ min (rd l2 x29_1).toNat 64)) = ji19 := hji19
         have hji19z : (rd l2 x29_1) ≤ 64 → (IntKind.i64.wrap (1 * 2 ^ (rd l2 x29_1).toNat)) = ji19 := shl_small hji19
         have hji19u : (IntKind.i64.wrap (2 ^ min (rd l2 x29_1).toNat 64)) = ji19 := by have h_ := hji19_; rw [Int.one_mul] at h_; exact h_
         have hji19v : (rd l2 x29_1) ≤ 64 → (IntKind.i64.wrap (2 ^ (rd l2 x29_1).toNat)) = ji19 := fun hle_ => by have h_ := hji19z hle_; rw [Int.one_mul] at h_; exact h_
         have hji19y : (wrap64 (1 * 2 ^ min (rd l2 x29_1).toNat 64)) = ji19 := (i64_w _).symm.trans hji19_
         have hji19x : (rd l2 x29_1) ≤ 64 → (wrap64 (1 * 2 ^ (rd l2 x29_1).toNat)) = ji19 := fun h_ => (i64_w _).symm.trans (hji19z h_)
         have H' := Aside0.mk H
         clear H
         have p306 : 0 ≤ (x29_1 : Int) := of_decide_eq_true asz
         have q306 : x29_1 < (l2.length : Int) := of_decide_eq_true asz
         obtain ⟨ad306, e306, hx306_0⟩ := Kd.at_int HR2.out x29_1 p306 q306
         cases e306
         replace hx306_0 := (HB.out.cell (World.block_lt_of_cell? w _ hx306_0)).trans hx306_0
         replace p306 := eq_true p306
         replace q306 := eq_true q306
         go_wp2
         go_roundg k1
         case measure => have := HK1.out; omega
         case rel => exact ⟨(Go.bits .xor .i64 x1_1 (ji19)), (wrap64 (x29_1 + 1)), (by first | rfl | (simp; done) | (simp only [← hji19] <;> (first | rfl | simp)) | (simp [*]; done)), rsz, H', ⟨by have := HK1.out; omega⟩, ⟨blkz⟩, ⟨blkz⟩, ⟨bel⟩⟩
        ·
         rw [if_neg c18] at H
         exact absurd H (by simp)
       ·
        rw [if_neg c17] at H
        exact absurd H (by simp)
      ·
       rw [if_neg c16] at H
       exact absurd H (by simp)
     ·
      rw [if_neg c15] at H
      have c15b0 : decide (x29_1 < (l2.length : Int)) = false := decide_eq_false c15
      clear c15
      simp only [Option.some.injEq, Prod.mk.injEq] at H
      obtain ⟨rfl, rfl⟩ := H
      go_wp2
      go_ret2
      exact ⟨ezz, bel⟩
  ·
   replace c7 := Bool.eq_false_iff.mpr c7
   subst c7
   rw [if_neg (show ¬ (false = true) by decide)] at H
   simp only [Option.some.injEq, Prod.mk.injEq] at H
   obtain ⟨rfl, rfl⟩ := H
   go_enter Tryd.func15, Tryd.ntmps15
   go_wp2_with (first | ((with_reducible refine gate_dst (N := 3) rfl ?_); refine box_event ?hg (N := 3) ?hd (cs := #[.int .i64 a0_0, .slice A0_1 l0_1.length c0_1, .slice A0_2 l0_2.length c0_2]) (t := 25) ?hr ?_; (case hd => rfl); (case hg => rfl); (case hr => first | (go_simp; done) | (go_simp; rfl)); intro gb295 hg w20 hbox hb; have BK295 := Aside0.mk (hbox); have GW295 := bsz (w := w) hg; have GE295 := GW295; replace HB := Aside0.mk (below_step bel hb); clear hb hbox hg; obtain ⟨hcz21_0, hcz21_1, hcz21_2⟩ := bc3 BK295.out) | ((with_reducible refine gate_callee (f := 37) rfl ?_); refine goesL_ (some 15) rfl rfl Tryd.func37 (by kernel_rfl) rfl #[.agg #[.int .i64 a0_0, .slice A0_1 l0_1.length c0_1, .slice A0_2 l0_2.length c0_2], .int .i64 a1] rfl mapz ?_; (with_reducible refine (feed_open.calls a0_0 _ _ l0_1 _ _ l0_2 a1 t296 t303 _ (cbz HR0_1) HC0_1.out (cbz HR0_2) HC0_2.out A4.out).mono ?_); rintro e w22 ⟨rfl, hb⟩; refine ⟨_, rfl, ?_⟩; replace BK295 := Aside0.mk (blk_below (g := gb295) blkz hb); replace HB := Aside0.mk (below_step bel hb); clear hb) | ((with_reducible refine gate_dst (N := 8) rfl ?_); refine box_event ?hg (N := 8) ?hd (cs := #[.int .i64 0, .slice none 0 0, .slice none 0 0]) (t := 54) ?hr ?_; (case hd => rfl); (case hg => rfl); (case hr => first | (go_simp; done) | (go_simp; rfl)); intro gb304 hg w23 hbox hb; have BK304 := Aside0.mk (hbox); have GW304 := bsz (w := w) hg; have GE304 := GW304; have NB295_304 := neL (g := gb295) hg; have NB304_295 := neR (g := gb295) hg; replace BK295 := Aside0.mk (blk_below (g := gb295) blkz hb); replace HB := Aside0.mk (below_step bel hb); clear hb hbox hg; have hnb24 := NB304_295.out; have hnc24 := NB295_304.out; obtain ⟨hcz25_0, hcz25_1, hcz25_2⟩ := bc3 BK304.out; obtain ⟨hfz25_0, hfz25_1, hfz25_2⟩ := bf3 BK304.out) | ((with_reducible refine gate_callee (f := 38) rfl ?_); refine goesL_ (some 25) rfl rfl Tryd.func38 (by kernel_rfl) rfl #[.agg #[.int .i64 t296, .slice A0_1 l0_1.length c0_1, .slice A0_2 l0_2.length c0_2], .slice A2 l2.length c2] rfl mapz ?_; (with_reducible refine (feed_grid_switches.calls t296 _ _ l0_1 _ _ l0_2 _ _ l2 false _ (cbz HR0_1) HC0_1.out (cbz HR0_2) HC0_2.out (cbz HR2) HC2.out A6.out).mono ?_); rintro e w26 ⟨rfl, hb⟩; refine ⟨_, rfl, ?_⟩; replace BK295 := Aside0.mk (blk_below (g := gb295) (o := .cells #[.int .i64 a0_0, .slice A0_1 l0_1.length c0_1, .slice A0_2 l0_2.length c0_2] 25 (0, 0)) (by (with_reducible repeat (first | refine blk_drewN ?_ _ | refine blk_drew ?_ | refine blk_alloc ?_ _)); refine blk_far ?_ NB295_304.out _; (with_reducible repeat (first | refine blk_drewN ?_ _ | refine blk_drew ?_ | refine blk_alloc ?_ _)); refine blk_far ?_ NB295_304.out _; (with_reducible repeat (first | refine blk_drewN ?_ _ | refine blk_drew ?_ | refine blk_alloc ?_ _)); refine blk_far ?_ NB295_304.out _; (with_reducible repeat (first | refine blk_drewN ?_ _ | refine blk_drew ?_ | refine blk_alloc ?_ _)); exact BK295.out) hb); replace BK304 := Aside0.mk (blk_below (g := gb304) (o := .cells #[.int .i64 t296, .slice A0_1 l0_1.length c0_1, .slice A0_2 l0_2.length c0_2] 54 (0, 0)) (by (with_reducible repeat (first | refine blk_drewN ?_ _ | refine blk_drew ?_ | refine blk_alloc ?_ _)); refine blk_put (cs := #[.int .i64 t296, .slice A0_1 l0_1.length c0_1, .slice none 0 0]) ?_ 2 _ rfl; (with_reducible repeat (first | refine blk_drewN ?_ _ | refine blk_drew ?_ | refine blk_alloc ?_ _)); refine blk_put (cs := #[.int .i64 t296, .slice none 0 0, .slice none 0 0]) ?_ 1 _ rfl; (with_reducible repeat (first | refine blk_drewN ?_ _ | refine blk_drew ?_ | refine blk_alloc ?_ _)); refine blk_put (cs := #[.int .i64 0, .slice none 0 0, .slice none 0 0]) ?_ 0 _ rfl; (with_reducible repeat (first | refine blk_drewN ?_ _ | refine blk_drew ?_ | refine blk_alloc ?_ _)); exact BK304.out) hb); replace HB := Aside0.mk (below_step bel hb); clear hb))
   go_ret2
   exact ⟨ezz, bel⟩
 ·
  rw [if_neg c5] at H
  have c5b0 : (t303 == 0) = false := beq_eq_false_iff_ne.mpr c5
  have c5b1 : (t303 != 0) = true := bne_iff_ne.mpr c5
  simp only [Option.some.injEq, Prod.mk.injEq] at H
  obtain ⟨rfl, rfl⟩ := H
  go_enter Tryd.func15, Tryd.ntmps15
  go_wp2_with (first | ((with_reducible refine gate_dst (N := 3) rfl ?_); refine box_event ?hg (N := 3) ?hd (cs := #[.int .i64 a0_0, .slice A0_1 l0_1.length c0_1, .slice A0_2 l0_2.length c0_2]) (t := 25) ?hr ?_; (case hd => rfl); (case hg => rfl); (case hr => first | (go_simp; done) | (go_simp; rfl)); intro gb295 hg w27 hbox hb; have BK295 := Aside0.mk (hbox); have GW295 := bsz (w := w) hg; have GE295 := GW295; replace HB := Aside0.mk (below_step bel hb); clear hb hbox hg; obtain ⟨hcz28_0, hcz28_1, hcz28_2⟩ := bc3 BK295.out) | ((with_reducible refine gate_callee (f := 37) rfl ?_); refine goesL_ (some 15) rfl rfl Tryd.func37 (by kernel_rfl) rfl #[.agg #[.int .i64 a0_0, .slice A0_1 l0_1.length c0_1, .slice A0_2 l0_2.length c0_2], .int .i64 a1] rfl mapz ?_; (with_reducible refine (feed_open.calls a0_0 _ _ l0_1 _ _ l0_2 a1 t296 t303 _ (cbz HR0_1) HC0_1.out (cbz HR0_2) HC0_2.out A4.out).mono ?_); rintro e w29 ⟨rfl, hb⟩; refine ⟨_, rfl, ?_⟩; replace BK295 := Aside0.mk (blk_below (g := gb295) blkz hb); replace HB := Aside0.mk (below_step bel hb); clear hb) | ((with_reducible refine gate_dst (N := 8) rfl ?_); refine box_event ?hg (N := 8) ?hd (cs := #[.int .i64 0, .slice none 0 0, .slice none 0 0]) (t := 54) ?hr ?_; (case hd => rfl); (case hg => rfl); (case hr => first | (go_simp; done) | (go_simp; rfl)); intro gb304 hg w30 hbox hb; have BK304 := Aside0.mk (hbox); have GW304 := bsz (w := w) hg; have GE304 := GW304; have NB295_304 := neL (g := gb295) hg; have NB304_295 := neR (g := gb295) hg; replace BK295 := Aside0.mk (blk_below (g := gb295) blkz hb); replace HB := Aside0.mk (below_step bel hb); clear hb hbox hg; have hnb31 := NB304_295.out; have hnc31 := NB295_304.out; obtain ⟨hcz32_0, hcz32_1, hcz32_2⟩ := bc3 BK304.out; obtain ⟨hfz32_0, hfz32_1, hfz32_2⟩ := bf3 BK304.out))
  go_ret2
  exact ⟨ezz, bel⟩

/-! ### feed_IsOrder: function 34 -/
mutual
def feed_IsOrder.j0 : Nat → Int → List Int → Int → Bool → Int → List (S47) → List (S49) → List Int → Option (Bool × Int)
 | 0, _, _, _, _, _, _, _, _ => none
 | k + 1, x1, x3, x11, x21, x320000, x320001, x320002, x320003 => if x21 = true then (some (false, 2)) else (if x11 = 0 then (feed_IsOrder.l0 k x1 x3 (x3.length : Int) 0 x320000 x320001 x320002 x320003) else (some (false, x11)))
def feed_IsOrder.l0 : Nat → Int → List Int → Int → Int → Int → List (S47) → List (S49) → List Int → Option (Bool × Int)
 | 0, _, _, _, _, _, _, _, _ => none
 | k + 1, x1, x35, x36, x37, x320000, x320001, x320002, x320003 => if x37 < x36 then (if 0 ≤ x37 then (if x37 < (x35.length : Int) then ((feed_rule_steps.f k x320000 x320001 x320002 x320003 x1).bind fun t322 => (if 0 ≤ (rd x35 x37) then (if (rd x35 x37) < (t322.length : Int) then (if (rd t322 (rd x35 x37)) < 0 then (some (false, 0)) else (feed_IsOrder.l0 k (rd t322 (rd x35 x37)) x35 x36 (wrap64 (x37 + 1)) x320000 x320001 x320002 x320003)) else (none)) else (none))) else (none)) else (none)) else (some (true, 0))
end
def feed_IsOrder.f (k : Nat) (a0_0 : Int) (l0_1 : List (S47)) (l0_2 : List (S49)) (a1 : Int) (l2 : List Int) (l3 : List Int) : Option (Bool × Int) := (feed_ruled.f k a0_0 l0_1 l0_2 a1 l2).bind fun bt308 => (if bt308.2 = 0 then ((feed_grid_switches.f bt308.1 l0_1 l0_2 l3).bind fun t320 => (feed_IsOrder.j0 k a1 l3 bt308.2 (!t320) bt308.1 l0_1 l0_2 l2)) else (feed_IsOrder.j0 k a1 l3 bt308.2 false bt308.1 l0_1 l0_2 l2))
set_option maxHeartbeats 8000000 in
set_option maxRecDepth 100000 in
theorem feed_IsOrder.calls (k : Nat) (a0_0 : Int) (A0_1 : Option Addr) (c0_1 : Nat) (l0_1 : List (S47)) (A0_2 : Option Addr) (c0_2 : Nat) (l0_2 : List (S49)) (a1 : Int) (A2 : Option Addr) (c2 : Nat) (l2 : List Int) (A3 : Option Addr) (c3 : Nat) (l3 : List Int) (r1 : Bool) (r2 : Int) (w : World) (hr0_1 : Kd.C k47 w A0_1 l0_1.length l0_1) (hc0_1 : l0_1.length ≤ c0_1) (hr0_2 : Kd.C k49 w A0_2 l0_2.length l0_2) (hc0_2 : l0_2.length ≤ c0_2) (hr2 : Kd.C (Kd.int .i64) w A2 l2.length l2) (hc2 : l2.length ≤ c2) (hr3 : Kd.C (Kd.int .i64) w A3 l3.length l3) (hc3 : l3.length ≤ c3) (hT : Tab.Tabs w) (h : feed_IsOrder.f k a0_0 l0_1 l0_2 a1 l2 l3 = some (r1, r2)) :
  Calls Tryd.prog 34 #[.agg #[.int .i64 a0_0, .slice A0_1 l0_1.length c0_1, .slice A0_2 l0_2.length c0_2], .int .i64 a1, .slice A2 l2.length c2, .slice A3 l3.length c3] w fun e w' => e = .returned (.tuple #[.bool r1, .int .i64 r2]) ∧ Below w.heap.size w w' := by
 have HT := Aside0.mk hT
 clear hT
 have hu25 := Tryd.underlying25
 have hu56 := Tryd.underlying56
 have hu54 := Tryd.underlying54
 have HR0_1 := Aside0.mk hr0_1
 have HC0_1 := Aside0.mk hc0_1
 clear hr0_1 hc0_1
 have HR0_2 := Aside0.mk hr0_2
 have HC0_2 := Aside0.mk hc0_2
 clear hr0_2 hc0_2
 have HR2 := Aside0.mk hr2
 have HC2 := Aside0.mk hc2
 clear hr2 hc2
 have HR3 := Aside0.mk hr3
 have HC3 := Aside0.mk hc3
 clear hr3 hc3
 have HB := Aside0.mk (Below.refl w.heap.size w)
 have H : ((feed_ruled.f k a0_0 l0_1 l0_2 a1 l2).bind fun bt308 => (if bt308.2 = 0 then ((feed_grid_switches.f bt308.1 l0_1 l0_2 l3).bind fun t320 => (feed_IsOrder.j0 k a1 l3 bt308.2 (!t320) bt308.1 l0_1 l0_2 l2)) else (feed_IsOrder.j0 k a1 l3 bt308.2 false bt308.1 l0_1 l0_2 l2))) = some (r1, r2) := h
 clear h
 replace H := Option.bind_eq_some_iff.mp H
 obtain ⟨⟨t308, t318⟩, A50, H⟩ := H
 try dsimp only at H
 have A5 := Aside0.mk A50
 clear A50
 have HC6 := Aside0.mk H
 clear H
 go_enter Tryd.func34, Tryd.ntmps34
 go_upto_region 2 with (first | ((with_reducible refine gate_dst (N := 4) rfl ?_); refine box_event ?hg (N := 4) ?hd (cs := #[.int .i64 a0_0, .slice A0_1 l0_1.length c0_1, .slice A0_2 l0_2.length c0_2]) (t := 25) ?hr ?_; (case hd => rfl); (case hg => rfl); (case hr => first | (go_simp; done) | (go_simp; rfl)); intro gb307 hg w7 hbox hb; have BK307 := Aside0.mk (hbox); have GW307 := bsz (w := w) hg; have GE307 := GW307; replace HB := Aside0.mk (below_step bel hb); clear hb hbox hg; obtain ⟨hcz8_0, hcz8_1, hcz8_2⟩ := bc3 BK307.out) | ((with_reducible refine gate_callee (f := 22) rfl ?_); refine goesL_ (some 18) rfl rfl Tryd.func22 (by kernel_rfl) rfl #[.agg #[.int .i64 a0_0, .slice A0_1 l0_1.length c0_1, .slice A0_2 l0_2.length c0_2], .int .i64 a1, .slice A2 l2.length c2] rfl mapz ?_; (with_reducible refine (feed_ruled.calls k a0_0 _ _ l0_1 _ _ l0_2 a1 _ _ l2 t308 t318 _ (cbz HR0_1) HC0_1.out (cbz HR0_2) HC0_2.out (cbz HR2) HC2.out (tbz HT) A5.out).mono ?_); rintro e w9 ⟨rfl, hb⟩; refine ⟨_, rfl, ?_⟩; replace BK307 := Aside0.mk (blk_below (g := gb307) blkz hb); replace HB := Aside0.mk (below_step bel hb); clear hb) | ((with_reducible refine gate_dst (N := 10) rfl ?_); refine box_event ?hg (N := 10) ?hd (cs := #[.int .i64 0, .slice none 0 0, .slice none 0 0, .slice none 0 0]) (t := 56) ?hr ?_; (case hd => rfl); (case hg => rfl); (case hr => first | (go_simp; done) | (go_simp; rfl)); intro gb319 hg w10 hbox hb; have BK319 := Aside0.mk (hbox); have GW319 := bsz (w := w) hg; have GE319 := GW319; have NB307_319 := neL (g := gb307) hg; have NB319_307 := neR (g := gb307) hg; replace BK307 := Aside0.mk (blk_below (g := gb307) blkz hb); replace HB := Aside0.mk (below_step bel hb); clear hb hbox hg; have hnb11 := NB319_307.out; have hnc11 := NB307_319.out; obtain ⟨hcz12_0, hcz12_1, hcz12_2, hcz12_3⟩ := bc4 BK319.out; obtain ⟨hfz12_0, hfz12_1, hfz12_2, hfz12_3⟩ := bf4 BK319.out))
 (try simp only [Act.put, List.setIfInBounds_toArray, List.set_cons_zero, List.set_cons_succ])
 go_cut [21] (fun v21 wc => ∃ (kq : Nat) (x21_5 : Bool), v21 = .bool x21_5 ∧ Aside0 (feed_IsOrder.j0 kq a1 l3 t318 x21_5 t308 l0_1 l0_2 l2 = some (r1, r2)) ∧ Aside0 (kq ≤ k) ∧ Aside0 (wc.heap[gb307]? = some (.cells #[.int .i64 a0_0, (.slice A0_1 l0_1.length c0_1), (.slice A0_2 l0_2.length c0_2)] 25 (0, 0))) ∧ Aside0 (wc.heap[gb319]? = some (.cells #[.int .i64 t308, (.slice A0_1 l0_1.length c0_1), (.slice A0_2 l0_2.length c0_2), (.slice A2 l2.length c2)] 56 (0, 0))) ∧ Aside0 (Below w.heap.size w wc))
 case first =>
  have H := HC6.out
  clear HC6
  by_cases c13 : t318 = 0
  ·
   rw [if_pos c13] at H
   have c13b0 : (t318 == 0) = true := beq_iff_eq.mpr c13
   have c13b1 : (t318 != 0) = false := bne_eq_false_iff_eq.mpr c13
   clear c13
   (first | rw [c13b0] | (simp only [i64_w, i32_w]; rw [c13b0]) | skip)
   replace H := Option.bind_eq_some_iff.mp H
   obtain ⟨t320, A140, H⟩ := H
   try dsimp only at H
   have A14 := Aside0.mk A140
   clear A140
   have H' := Aside0.mk H
   clear H
   have hnb15 := NB319_307.out
   have hnc15 := NB307_319.out
   obtain ⟨hcz16_0, hcz16_1, hcz16_2, hcz16_3⟩ := bc4 BK319.out
   obtain ⟨hfz16_0, hfz16_1, hfz16_2, hfz16_3⟩ := bf4 BK319.out
   go_wp2_with (first | (go_at_call 38; (with_reducible refine (feed_grid_switches.calls t308 _ _ l0_1 _ _ l0_2 _ _ l3 t320 _ (cbz HR0_1) HC0_1.out (cbz HR0_2) HC0_2.out (cbz HR3) HC3.out A14.out).mono ?_); rintro e w17 ⟨rfl, hb⟩; replace BK307 := Aside0.mk (blk_below (g := gb307) (o := .cells #[.int .i64 a0_0, .slice A0_1 l0_1.length c0_1, .slice A0_2 l0_2.length c0_2] 25 (0, 0)) (by (with_reducible repeat (first | refine blk_drewN ?_ _ | refine blk_drew ?_ | refine blk_alloc ?_ _)); refine blk_far ?_ NB307_319.out _; (with_reducible repeat (first | refine blk_drewN ?_ _ | refine blk_drew ?_ | refine blk_alloc ?_ _)); refine blk_far ?_ NB307_319.out _; (with_reducible repeat (first | refine blk_drewN ?_ _ | refine blk_drew ?_ | refine blk_alloc ?_ _)); refine blk_far ?_ NB307_319.out _; (with_reducible repeat (first | refine blk_drewN ?_ _ | refine blk_drew ?_ | refine blk_alloc ?_ _)); refine blk_far ?_ NB307_319.out _; (with_reducible repeat (first | refine blk_drewN ?_ _ | refine blk_drew ?_ | refine blk_alloc ?_ _)); exact BK307.out) hb); replace BK319 := Aside0.mk (blk_below (g := gb319) (o := .cells #[.int .i64 t308, .slice A0_1 l0_1.length c0_1, .slice A0_2 l0_2.length c0_2, .slice A2 l2.length c2] 56 (0, 0)) (by (with_reducible repeat (first | refine blk_drewN ?_ _ | refine blk_drew ?_ | refine blk_alloc ?_ _)); refine blk_put (cs := #[.int .i64 t308, .slice A0_1 l0_1.length c0_1, .slice A0_2 l0_2.length c0_2, .slice none 0 0]) ?_ 3 _ rfl; (with_reducible repeat (first | refine blk_drewN ?_ _ | refine blk_drew ?_ | refine blk_alloc ?_ _)); refine blk_put (cs := #[.int .i64 t308, .slice A0_1 l0_1.length c0_1, .slice none 0 0, .slice none 0 0]) ?_ 2 _ rfl; (with_reducible repeat (first | refine blk_drewN ?_ _ | refine blk_drew ?_ | refine blk_alloc ?_ _)); refine blk_put (cs := #[.int .i64 t308, .slice none 0 0, .slice none 0 0, .slice none 0 0]) ?_ 1 _ rfl; (with_reducible repeat (first | refine blk_drewN ?_ _ | refine blk_drew ?_ | refine blk_alloc ?_ _)); refine blk_put (cs := #[.int .i64 0, .slice none 0 0, .slice none 0 0, .slice none 0 0]) ?_ 0 _ rfl; (with_reducible repeat (first | refine blk_drewN ?_ _ | refine blk_drew ?_ | refine blk_alloc ?_ _)); exact BK319.out) hb); replace HB := Aside0.mk (below_step bel hb); clear hb))
   go_meet
   case rel => exact ⟨_, (!t320), rsz, H', ⟨by first | omega | exact Nat.le_refl _⟩, ⟨blkz⟩, ⟨blkz⟩, ⟨bel⟩⟩
  ·
   rw [if_neg c13] at H
   have c13b0 : (t318 == 0) = false := beq_eq_false_iff_ne.mpr c13
   have c13b1 : (t318 != 0) = true := bne_iff_ne.mpr c13
   (first | rw [c13b0] | (simp only [i64_w, i32_w]; rw [c13b0]) | skip)
   have H' := Aside0.mk H
   clear H
   go_wp2
   go_meet
   case rel => exact ⟨_, (false), rsz, H', ⟨by first | omega | exact Nat.le_refl _⟩, ⟨by (with_reducible repeat (first | refine blk_drewN ?_ _ | refine blk_drew ?_ | refine blk_alloc ?_ _)); refine blk_far ?_ NB307_319.out _; (with_reducible repeat (first | refine blk_drewN ?_ _ | refine blk_drew ?_ | refine blk_alloc ?_ _)); refine blk_far ?_ NB307_319.out _; (with_reducible repeat (first | refine blk_drewN ?_ _ | refine blk_drew ?_ | refine blk_alloc ?_ _)); refine blk_far ?_ NB307_319.out _; (with_reducible repeat (first | refine blk_drewN ?_ _ | refine blk_drew ?_ | refine blk_alloc ?_ _)); refine blk_far ?_ NB307_319.out _; (with_reducible repeat (first | refine blk_drewN ?_ _ | refine blk_drew ?_ | refine blk_alloc ?_ _)); exact BK307.out⟩, ⟨by (with_reducible repeat (first | refine blk_drewN ?_ _ | refine blk_drew ?_ | refine blk_alloc ?_ _)); refine blk_put (cs := #[.int .i64 t308, .slice A0_1 l0_1.length c0_1, .slice A0_2 l0_2.length c0_2, .slice none 0 0]) ?_ 3 _ rfl; (with_reducible repeat (first | refine blk_drewN ?_ _ | refine blk_drew ?_ | refine blk_alloc ?_ _)); refine blk_put (cs := #[.int .i64 t308, .slice A0_1 l0_1.length c0_1, .slice none 0 0, .slice none 0 0]) ?_ 2 _ rfl; (with_reducible repeat (first | refine blk_drewN ?_ _ | refine blk_drew ?_ | refine blk_alloc ?_ _)); refine blk_put (cs := #[.int .i64 t308, .slice none 0 0, .slice none 0 0, .slice none 0 0]) ?_ 1 _ rfl; (with_reducible repeat (first | refine blk_drewN ?_ _ | refine blk_drew ?_ | refine blk_alloc ?_ _)); refine blk_put (cs := #[.int .i64 0, .slice none 0 0, .slice none 0 0, .slice none 0 0]) ?_ 0 _ rfl; (with_reducible repeat (first | refine blk_drewN ?_ _ | refine blk_drew ?_ | refine blk_alloc ?_ _)); exact BK319.out⟩, ⟨bel⟩⟩
 case rest =>
  clear HC6
  (try clear c1); (try clear c2); (try clear p2); (try clear c3); (try clear c11); (try clear c13); (try clear c13b0); (try clear c13b1); (try clear c15); (try clear hcz12_0); (try clear hcz12_1); (try clear hcz12_2); (try clear hcz12_3); (try clear hcz16_0); (try clear hcz16_1); (try clear hcz16_2); (try clear hcz16_3); (try clear hcz8_0); (try clear hcz8_1); (try clear hcz8_2); (try clear hfz12_0); (try clear hfz12_1); (try clear hfz12_2); (try clear hfz12_3); (try clear hfz16_0); (try clear hfz16_1); (try clear hfz16_2); (try clear hfz16_3); (try clear hfz8_0); (try clear hfz8_1); (try clear hfz8_2)
  obtain ⟨kq, x21_5, rfl, HA, HJ5, BK307, BK319, HB⟩ := hcut
  cases kq with
  | zero => exact absurd HA.out (by simp [feed_IsOrder.j0])
  | succ kj5 =>
   have H := HA.out
   clear HA
   simp only [feed_IsOrder.j0] at H
   by_cases c18 : x21_5 = true
   ·
    subst c18
    rw [if_pos rfl] at H
    simp only [Option.some.injEq, Prod.mk.injEq] at H
    obtain ⟨rfl, rfl⟩ := H
    go_wp2
    go_ret2
    exact ⟨ezz, bel⟩
   ·
    replace c18 := Bool.eq_false_iff.mpr c18
    subst c18
    rw [if_neg (show ¬ (false = true) by decide)] at H
    by_cases c19 : t318 = 0
    ·
     rw [if_pos c19] at H
     have c19b0 : (t318 == 0) = true := beq_iff_eq.mpr c19
     have c19b1 : (t318 != 0) = false := bne_eq_false_iff_eq.mpr c19
     clear c19
     have H' := Aside0.mk H
     clear H
     go_wp2
     go_loopg [1, 37] kj5 (fun kq v1 v37 w' => ∃ (x1_2 : Int) (x37_2 : Int), v1 = .int .i64 x1_2 ∧ v37 = .int .i64 x37_2 ∧ Aside0 (feed_IsOrder.l0 kq x1_2 l3 (l3.length : Int) x37_2 t308 l0_1 l0_2 l2 = some (r1, r2)) ∧ Aside0 (kq ≤ kj5) ∧ Aside0 (w'.heap[gb307]? = some (.cells #[.int .i64 a0_0, (.slice A0_1 l0_1.length c0_1), (.slice A0_2 l0_2.length c0_2)] 25 (0, 0))) ∧ Aside0 (w'.heap[gb319]? = some (.cells #[.int .i64 t308, (.slice A0_1 l0_1.length c0_1), (.slice A0_2 l0_2.length c0_2), (.slice A2 l2.length c2)] 56 (0, 0))) ∧ Aside0 (Below w.heap.size w w'))
     case atStart => exact ⟨(a1), (0), rsz, rsz, H', ⟨Nat.le_refl _⟩, ⟨blkz⟩, ⟨blkz⟩, ⟨bel⟩⟩
     case round =>
      clear H'
      (try clear c1); (try clear c2); (try clear p2); (try clear c3); (try clear c11); (try clear c13); (try clear c13b0); (try clear c13b1); (try clear c15); (try clear c18); (try clear c19); (try clear c19b0); (try clear c19b1); (try clear hcz12_0); (try clear hcz12_1); (try clear hcz12_2); (try clear hcz12_3); (try clear hcz16_0); (try clear hcz16_1); (try clear hcz16_2); (try clear hcz16_3); (try clear hcz8_0); (try clear hcz8_1); (try clear hcz8_2); (try clear hfz12_0); (try clear hfz12_1); (try clear hfz12_2); (try clear hfz12_3); (try clear hfz16_0); (try clear hfz16_1); (try clear hfz16_2); (try clear hfz16_3); (try clear hfz8_0); (try clear hfz8_1); (try clear hfz8_2); (try clear p2)
      obtain ⟨x1_2, x37_2, rfl, rfl, HA, HK2, BK307, BK319, HB⟩ := hrel
      cases gk with
      | zero => exact absurd HA.out (by simp [feed_IsOrder.l0])
      | succ k2 =>
       have H := HA.out
       clear HA
       simp only [feed_IsOrder.l0] at H
       by_cases c20 : x37_2 < (l3.length : Int)
       ·
        rw [if_pos c20] at H
        have c20b0 : decide (x37_2 < (l3.length : Int)) = true := decide_eq_true c20
        clear c20
        by_cases c21 : 0 ≤ x37_2
        ·
         rw [if_pos c21] at H
         have c21b0 : decide (0 ≤ x37_2) = true := decide_eq_true c21
         clear c21
         by_cases c22 : x37_2 < (l3.length : Int)
         ·
          rw [if_pos c22] at H
          have c22b0 : decide (x37_2 < (l3.length : Int)) = true := decide_eq_true c22
          clear c22
          replace H := Option.bind_eq_some_iff.mp H
          obtain ⟨t322, A230, H⟩ := H
          try dsimp only at H
          have A23 := Aside0.mk A230
          clear A230
          by_cases c24 : 0 ≤ (rd l3 x37_2)
          ·
           rw [if_pos c24] at H
           have c24b0 : decide (0 ≤ (rd l3 x37_2)) = true := decide_eq_true c24
           clear c24
           by_cases c25 : (rd l3 x37_2) < (t322.length : Int)
           ·
            rw [if_pos c25] at H
            have c25b0 : decide ((rd l3 x37_2) < (t322.length : Int)) = true := decide_eq_true c25
            clear c25
            by_cases c26 : (rd t322 (rd l3 x37_2)) < 0
            ·
             rw [if_pos c26] at H
             have c26b0 : decide ((rd t322 (rd l3 x37_2)) < 0) = true := decide_eq_true c26
             clear c26
             simp only [Option.some.injEq, Prod.mk.injEq] at H
             obtain ⟨rfl, rfl⟩ := H
             have p321 : 0 ≤ (x37_2 : Int) := of_decide_eq_true asz
             have q321 : x37_2 < (l3.length : Int) := of_decide_eq_true asz
             obtain ⟨ad321, e321, hx321_0⟩ := Kd.at_int HR3.out x37_2 p321 q321
             cases e321
             replace hx321_0 := (HB.out.cell (World.block_lt_of_cell? w _ hx321_0)).trans hx321_0
             replace p321 := eq_true p321
             replace q321 := eq_true q321
             have hnb27 := NB319_307.out
             have hnc27 := NB307_319.out
             obtain ⟨hcz28_0, hcz28_1, hcz28_2, hcz28_3⟩ := bc4 BK319.out
             obtain ⟨hfz28_0, hfz28_1, hfz28_2, hfz28_3⟩ := bf4 BK319.out
             go_wp2_with (first | ((with_reducible refine gate_callee (f := 31) rfl ?_); refine goesL_ (some 43) rfl rfl Tryd.func31 (by kernel_rfl) rfl #[.agg #[.int .i64 t308, .slice A0_1 l0_1.length c0_1, .slice A0_2 l0_2.length c0_2, .slice A2 l2.length c2], .int .i64 x1_2] rfl mapz ?_; (with_reducible refine (feed_rule_steps.calls k2 t308 _ _ l0_1 _ _ l0_2 _ _ l2 x1_2 t322 _ (cbz HR0_1) HC0_1.out (cbz HR0_2) HC0_2.out (cbz HR2) HC2.out (tbz HT) A23.out).mono ?_); rintro e w29 ⟨v323, rfl, ho0, hb⟩; refine ⟨_, rfl, ?_⟩; have HO324 := Aside0.mk (Kd.R_lower ho0 (below_size bel)); replace BK307 := Aside0.mk (blk_below (g := gb307) blkz hb); replace BK319 := Aside0.mk (blk_below (g := gb319) blkz hb); replace HB := Aside0.mk (below_step bel hb); (try clear hb); (try clear hb2); (try clear hk); (try clear hi); (try clear ho0); obtain ⟨Ao30, co30, eo30⟩ := Kd.R_slice HO324.out; subst eo30; have p325 : 0 ≤ ((rd l3 x37_2) : Int) := of_decide_eq_true asz; have q325 : (rd l3 x37_2) < (t322.length : Int) := of_decide_eq_true asz; obtain ⟨ad325, e325, hx325_0⟩ := Kd.at_int (Kd.R_reads' HO324.out).2.2 (rd l3 x37_2) p325 q325; cases e325; replace p325 := eq_true p325; replace q325 := eq_true q325))
             go_ret2
             exact ⟨ezz, bel⟩
            ·
             rw [if_neg c26] at H
             have c26b0 : decide ((rd t322 (rd l3 x37_2)) < 0) = false := decide_eq_false c26
             clear c26
             have H' := Aside0.mk H
             clear H
             have p321 : 0 ≤ (x37_2 : Int) := of_decide_eq_true asz
             have q321 : x37_2 < (l3.length : Int) := of_decide_eq_true asz
             obtain ⟨ad321, e321, hx321_0⟩ := Kd.at_int HR3.out x37_2 p321 q321
             cases e321
             replace hx321_0 := (HB.out.cell (World.block_lt_of_cell? w _ hx321_0)).trans hx321_0
             replace p321 := eq_true p321
             replace q321 := eq_true q321
             have hnb31 := NB319_307.out
             have hnc31 := NB307_319.out
             obtain ⟨hcz32_0, hcz32_1, hcz32_2, hcz32_3⟩ := bc4 BK319.out
             obtain ⟨hfz32_0, hfz32_1, hfz32_2, hfz32_3⟩ := bf4 BK319.out
             go_wp2_with (first | ((with_reducible refine gate_callee (f := 31) rfl ?_); refine goesL_ (some 43) rfl rfl Tryd.func31 (by kernel_rfl) rfl #[.agg #[.int .i64 t308, .slice A0_1 l0_1.length c0_1, .slice A0_2 l0_2.length c0_2, .slice A2 l2.length c2], .int .i64 x1_2] rfl mapz ?_; (with_reducible refine (feed_rule_steps.calls k2 t308 _ _ l0_1 _ _ l0_2 _ _ l2 x1_2 t322 _ (cbz HR0_1) HC0_1.out (cbz HR0_2) HC0_2.out (cbz HR2) HC2.out (tbz HT) A23.out).mono ?_); rintro e w33 ⟨v323, rfl, ho0, hb⟩; refine ⟨_, rfl, ?_⟩; have HO324 := Aside0.mk (Kd.R_lower ho0 (below_size bel)); replace BK307 := Aside0.mk (blk_below (g := gb307) blkz hb); replace BK319 := Aside0.mk (blk_below (g := gb319) blkz hb); replace HB := Aside0.mk (below_step bel hb); (try clear hb); (try clear hb2); (try clear hk); (try clear hi); (try clear ho0); obtain ⟨Ao34, co34, eo34⟩ := Kd.R_slice HO324.out; subst eo34; have p325 : 0 ≤ ((rd l3 x37_2) : Int) := of_decide_eq_true asz; have q325 : (rd l3 x37_2) < (t322.length : Int) := of_decide_eq_true asz; obtain ⟨ad325, e325, hx325_0⟩ := Kd.at_int (Kd.R_reads' HO324.out).2.2 (rd l3 x37_2) p325 q325; cases e325; replace p325 := eq_true p325; replace q325 := eq_true q325))
             go_roundg k2
             case measure => have := HJ5.out; have := HK2.out; omega
             case rel => exact ⟨(rd t322 (rd l3 x37_2)), (wrap64 (x37_2 + 1)), rsz, rsz, H', ⟨by have := HJ5.out; have := HK2.out; omega⟩, ⟨blkz⟩, ⟨blkz⟩, ⟨bel⟩⟩
           ·
            rw [if_neg c25] at H
            exact absurd H (by simp)
          ·
           rw [if_neg c24] at H
           exact absurd H (by simp)
         ·
          rw [if_neg c22] at H
          exact absurd H (by simp)
        ·
         rw [if_neg c21] at H
         exact absurd H (by simp)
       ·
        rw [if_neg c20] at H
        have c20b0 : decide (x37_2 < (l3.length : Int)) = false := decide_eq_false c20
        clear c20
        simp only [Option.some.injEq, Prod.mk.injEq] at H
        obtain ⟨rfl, rfl⟩ := H
        go_wp2
        go_ret2
        exact ⟨ezz, bel⟩
    ·
     rw [if_neg c19] at H
     have c19b0 : (t318 == 0) = false := beq_eq_false_iff_ne.mpr c19
     have c19b1 : (t318 != 0) = true := bne_iff_ne.mpr c19
     simp only [Option.some.injEq, Prod.mk.injEq] at H
     obtain ⟨rfl, rfl⟩ := H
     go_wp2
     go_ret2
     exact ⟨ezz, bel⟩

/-! ### droppertop_leads: function 13 -/
def droppertop_leads.l0 : Nat → Int → List Int → List Int → Bool → Int → Int → Int → List Int → Int → Int → List (S47) → List (S49) → Option (Bool)
 | 0, _, _, _, _, _, _, _, _, _, _, _, _ => none
 | k + 1, x2, x3, x4, x11, x12, x13, x14, x15, x16, x327000, x327001, x327002 => if x16 ≥ 0 then (if 0 ≤ x16 then (if x16 < (x4.length : Int) then (if x15.length < 17592186044416 then (droppertop_leads.l0 k x2 x3 x4 x11 x12 x13 x14 (x15 ++ [rd x4 x16]) (wrap64 (x16 - 1)) x327000 x327001 x327002) else (none)) else (none)) else (none)) else ((feed_IsOrder.f k x327000 x327001 x327002 x2 x3 x15).bind fun bt335 => (if x12 = 0 then (if x14 = 0 then (if bt335.2 = 0 then (if x11 = true then (if x13 = x2 then (some bt335.1) else (some false)) else (some false)) else (some false)) else (some false)) else (some false)))
def droppertop_leads.f (k : Nat) (a0_0 : Int) (l0_1 : List (S47)) (l0_2 : List (S49)) (a1 : Int) (a2 : Int) (l3 : List Int) (l4 : List Int) : Option (Bool) := (feed_IsOrder.f k a0_0 l0_1 l0_2 a1 l3 l4).bind fun bt327 => ((feed_After.f k a0_0 l0_1 l0_2 a1 l4).bind fun bt329 => (droppertop_leads.l0 k a2 l3 l4 bt327.1 bt327.2 bt329.1 bt329.2 ([] : List Int) (wrap64 ((l4.length : Int) - 1)) a0_0 l0_1 l0_2))
set_option maxHeartbeats 8000000 in
set_option maxRecDepth 100000 in
theorem droppertop_leads.calls (k : Nat) (a0_0 : Int) (A0_1 : Option Addr) (c0_1 : Nat) (l0_1 : List (S47)) (A0_2 : Option Addr) (c0_2 : Nat) (l0_2 : List (S49)) (a1 : Int) (a2 : Int) (A3 : Option Addr) (c3 : Nat) (l3 : List Int) (A4 : Option Addr) (c4 : Nat) (l4 : List Int) (r : Bool) (w : World) (hr0_1 : Kd.C k47 w A0_1 l0_1.length l0_1) (hc0_1 : l0_1.length ≤ c0_1) (hr0_2 : Kd.C k49 w A0_2 l0_2.length l0_2) (hc0_2 : l0_2.length ≤ c0_2) (hr3 : Kd.C (Kd.int .i64) w A3 l3.length l3) (hc3 : l3.length ≤ c3) (hr4 : Kd.C (Kd.int .i64) w A4 l4.length l4) (hc4 : l4.length ≤ c4) (hT : Tab.Tabs w) (h : droppertop_leads.f k a0_0 l0_1 l0_2 a1 a2 l3 l4 = some r) :
  Calls Tryd.prog 13 #[.agg #[.int .i64 a0_0, .slice A0_1 l0_1.length c0_1, .slice A0_2 l0_2.length c0_2], .int .i64 a1, .int .i64 a2, .slice A3 l3.length c3, .slice A4 l4.length c4] w fun e w' => e = .returned (.bool r) ∧ Below w.heap.size w w' := by
 have HT := Aside0.mk hT
 clear hT
 have hu25 := Tryd.underlying25
 have HR0_1 := Aside0.mk hr0_1
 have HC0_1 := Aside0.mk hc0_1
 clear hr0_1 hc0_1
 have HR0_2 := Aside0.mk hr0_2
 have HC0_2 := Aside0.mk hc0_2
 clear hr0_2 hc0_2
 have HR3 := Aside0.mk hr3
 have HC3 := Aside0.mk hc3
 clear hr3 hc3
 have HR4 := Aside0.mk hr4
 have HC4 := Aside0.mk hc4
 clear hr4 hc4
 have HB := Aside0.mk (Below.refl w.heap.size w)
 have H : ((feed_IsOrder.f k a0_0 l0_1 l0_2 a1 l3 l4).bind fun bt327 => ((feed_After.f k a0_0 l0_1 l0_2 a1 l4).bind fun bt329 => (droppertop_leads.l0 k a2 l3 l4 bt327.1 bt327.2 bt329.1 bt329.2 ([] : List Int) (wrap64 ((l4.length : Int) - 1)) a0_0 l0_1 l0_2))) = some r := h
 clear h
 replace H := Option.bind_eq_some_iff.mp H
 obtain ⟨⟨t327, t328⟩, A60, H⟩ := H
 try dsimp only at H
 have A6 := Aside0.mk A60
 clear A60
 replace H := Option.bind_eq_some_iff.mp H
 obtain ⟨⟨t329, t330⟩, A70, H⟩ := H
 try dsimp only at H
 have A7 := Aside0.mk A70
 clear A70
 have H' := Aside0.mk H
 clear H
 go_enter Tryd.func13, Tryd.ntmps13
 go_wp2_with (first | ((with_reducible refine gate_dst (N := 5) rfl ?_); refine box_event ?hg (N := 5) ?hd (cs := #[.int .i64 a0_0, .slice A0_1 l0_1.length c0_1, .slice A0_2 l0_2.length c0_2]) (t := 25) ?hr ?_; (case hd => rfl); (case hg => rfl); (case hr => first | (go_simp; done) | (go_simp; rfl)); intro gb326 hg w8 hbox hb; have BK326 := Aside0.mk (hbox); have GW326 := bsz (w := w) hg; have GE326 := GW326; replace HB := Aside0.mk (below_step bel hb); clear hb hbox hg; obtain ⟨hcz9_0, hcz9_1, hcz9_2⟩ := bc3 BK326.out) | ((with_reducible refine gate_callee (f := 34) rfl ?_); refine goesL_ (some 24) rfl rfl Tryd.func34 (by kernel_rfl) rfl #[.agg #[.int .i64 a0_0, .slice A0_1 l0_1.length c0_1, .slice A0_2 l0_2.length c0_2], .int .i64 a1, .slice A3 l3.length c3, .slice A4 l4.length c4] rfl mapz ?_; (with_reducible refine (feed_IsOrder.calls k a0_0 _ _ l0_1 _ _ l0_2 a1 _ _ l3 _ _ l4 t327 t328 _ (cbz HR0_1) HC0_1.out (cbz HR0_2) HC0_2.out (cbz HR3) HC3.out (cbz HR4) HC4.out (tbz HT) A6.out).mono ?_); rintro e w10 ⟨rfl, hb⟩; refine ⟨_, rfl, ?_⟩; replace BK326 := Aside0.mk (blk_below (g := gb326) blkz hb); replace HB := Aside0.mk (below_step bel hb); clear hb; obtain ⟨hcz11_0, hcz11_1, hcz11_2⟩ := bc3 BK326.out) | ((with_reducible refine gate_callee (f := 15) rfl ?_); refine goesL_ (some 31) rfl rfl Tryd.func15 (by kernel_rfl) rfl #[.agg #[.int .i64 a0_0, .slice A0_1 l0_1.length c0_1, .slice A0_2 l0_2.length c0_2], .int .i64 a1, .slice A4 l4.length c4] rfl mapz ?_; (with_reducible refine (feed_After.calls k a0_0 _ _ l0_1 _ _ l0_2 a1 _ _ l4 t329 t330 _ (cbz HR0_1) HC0_1.out (cbz HR0_2) HC0_2.out (cbz HR4) HC4.out A7.out).mono ?_); rintro e w12 ⟨rfl, hb⟩; refine ⟨_, rfl, ?_⟩; replace BK326 := Aside0.mk (blk_below (g := gb326) blkz hb); replace HB := Aside0.mk (below_step bel hb); clear hb))
 go_loopg [15, 16] k (fun kq v15 v16 w' => ∃ (x15_1 : List Int) (x16_1 : Int), v16 = .int .i64 x16_1 ∧ Aside0 (droppertop_leads.l0 kq a2 l3 l4 t327 t328 t329 t330 x15_1 x16_1 a0_0 l0_1 l0_2 = some r) ∧ Aside0 (kq ≤ k) ∧ Aside0 (Kd.R (Kd.int .i64) 3 w' w.heap.size (fun _ => True) v15 x15_1) ∧ Aside0 (w'.heap[gb326]? = some (.cells #[.int .i64 a0_0, (.slice A0_1 l0_1.length c0_1), (.slice A0_2 l0_2.length c0_2)] 25 (0, 0))) ∧ Aside0 (Below w.heap.size w w'))
 case atStart => exact ⟨(([] : List Int)), (wrap64 ((l4.length : Int) - 1)), rsz, H', ⟨Nat.le_refl _⟩, ⟨by first | exact Kd.R_nil _ _ _ _ _ | exact Kd.N_nil _ _ _ _ _ | exact Kd.V_nil _ _ _ _ _ | exact Kd.Q_nil _ _ _ _ _ | exact Kd.S_nil _ _ _ _ _⟩, ⟨blkz⟩, ⟨bel⟩⟩
 case round =>
  clear H'
  (try clear c1); (try clear p2); (try clear c3); (try clear c4); (try clear p6); (try clear hcz11_0); (try clear hcz11_1); (try clear hcz11_2); (try clear hcz9_0); (try clear hcz9_1); (try clear hcz9_2); (try clear hfz11_0); (try clear hfz11_1); (try clear hfz11_2); (try clear hfz9_0); (try clear hfz9_1); (try clear hfz9_2)
  obtain ⟨x15_1, x16_1, rfl, HA, HK1, HO_15, BK326, HB⟩ := hrel
  cases gk with
  | zero => exact absurd HA.out (by simp [droppertop_leads.l0])
  | succ k1 =>
   have H := HA.out
   clear HA
   simp only [droppertop_leads.l0] at H
   by_cases c13 : x16_1 ≥ 0
   ·
    rw [if_pos c13] at H
    have c13b0 : decide (0 ≤ x16_1) = true := decide_eq_true c13
    clear c13
    by_cases c14 : 0 ≤ x16_1
    ·
     rw [if_pos c14] at H
     have c14b0 : decide (0 ≤ x16_1) = true := decide_eq_true c14
     clear c14
     by_cases c15 : x16_1 < (l4.length : Int)
     ·
      rw [if_pos c15] at H
      have c15b0 : decide (x16_1 < (l4.length : Int)) = true := decide_eq_true c15
      clear c15
      by_cases c16 : x15_1.length < 17592186044416
      ·
       rw [if_pos c16] at H
       have LMc16 := Aside0.mk c16
       clear c16
       obtain ⟨y332, hy332⟩ : ∃ y_ : List Int, y_ = (x15_1 ++ [rd l4 x16_1]) := ⟨_, rfl⟩
       replace H : (droppertop_leads.l0 k1 a2 l3 l4 t327 t328 t329 t330 y332 (wrap64 (x16_1 - 1)) a0_0 l0_1 l0_2) = some r := by first | (rw [hy332]; with_reducible exact H) | (have H2_ := (Option.bind_some _ _).symm.trans H; rw [hy332]; with_reducible exact H2_) | (have H2_ := (Option.bind_some _ _).symm.trans H; with_reducible exact H2_) | with_reducible exact H | (rw [hy332]; exact H) | exact H
       have Ny332 := Aside0.mk hy332
       clear hy332
       have H' := Aside0.mk H
       clear H
       have p331 : 0 ≤ (x16_1 : Int) := of_decide_eq_true asz
       have q331 : x16_1 < (l4.length : Int) := of_decide_eq_true asz
       obtain ⟨ad331, e331, hx331_0⟩ := Kd.at_int HR4.out x16_1 p331 q331
       cases e331
       replace hx331_0 := (HB.out.cell (World.block_lt_of_cell? w _ hx331_0)).trans hx331_0
       replace p331 := eq_true p331
       replace q331 := eq_true q331
       go_wp2_with (first | ((with_reducible refine gate_builtin (b := .append) (xs := #[.tmp 41, .tmp 46]) rfl ?_); at_builtin; refine Kd.R_append (Kd.int .i64) (w0 := w) w.heap.size rfl (.tmp 41) (.tmp 46) 26 3 (.int .i64 0) 8 rfl Tryd.underlying26 info3 rfl (by decide) (by omega) u15 x15_1 (rd l4 x16_1) [.int .i64 (rd l4 x16_1)] (fun _ => True) (fun _ => False) rfl rfl ?aP (fun _ hk => hk.elim) ?aF ?aO ?aB ?aS ?aL ?_; (case aP => exact rfl); (case aB => exact bel); (case aF => exact (fun _ _ => trivial)); (case aO => exact (ownx HO_15)); (case aS => exact (below_size bel)); (case aL => have := LMc16.out; omega); intro v333 w17 ho hb hg hat; rw [← Ny332.out] at ho; have n0_ := Aside0.mk (blk_grown (g := gb326) (o := .cells #[.int .i64 a0_0, .slice A0_1 l0_1.length c0_1, .slice A0_2 l0_2.length c0_2] 25 (0, 0)) blkz hg (Kd.R_ne HO_15.out BK326.out (by decide))); have n1_ := Aside0.mk (hb); have n2_ := Aside0.mk (ho); clear BK326; clear HB; clear HO_15; have BK326 := n0_; have HB := n1_; have HO334 := n2_; clear n0_ n1_ n2_; clear ho hb hg hat))
       go_roundg k1
       case measure => have := HK1.out; omega
       case rel => exact ⟨(y332), (wrap64 (x16_1 - 1)), rsz, H', ⟨by have := HK1.out; omega⟩, ⟨by (with_reducible repeat (first | apply Kd.R_alloc | apply Kd.R_drewN | apply Kd.R_drew)); exact HO334.out⟩, ⟨blkz⟩, ⟨bel⟩⟩
      ·
       rw [if_neg c16] at H
       exact absurd H (by simp)
     ·
      rw [if_neg c15] at H
      exact absurd H (by simp)
    ·
     rw [if_neg c14] at H
     exact absurd H (by simp)
   ·
    rw [if_neg c13] at H
    have c13b0 : decide (0 ≤ x16_1) = false := decide_eq_false c13
    clear c13
    replace H := Option.bind_eq_some_iff.mp H
    obtain ⟨⟨t335, t336⟩, A180, H⟩ := H
    try dsimp only at H
    have A18 := Aside0.mk A180
    clear A180
    by_cases c19 : t328 = 0
    ·
     rw [if_pos c19] at H
     have c19b0 : (t328 == 0) = true := beq_iff_eq.mpr c19
     have c19b1 : (t328 != 0) = false := bne_eq_false_iff_eq.mpr c19
     clear c19
     by_cases c20 : t330 = 0
     ·
      rw [if_pos c20] at H
      have c20b0 : (t330 == 0) = true := beq_iff_eq.mpr c20
      have c20b1 : (t330 != 0) = false := bne_eq_false_iff_eq.mpr c20
      clear c20
      by_cases c21 : t336 = 0
      ·
       rw [if_pos c21] at H
       have c21b0 : (t336 == 0) = true := beq_iff_eq.mpr c21
       have c21b1 : (t336 != 0) = false := bne_eq_false_iff_eq.mpr c21
       clear c21
       by_cases c22 : t327 = true
       ·
        subst c22
        rw [if_pos rfl] at H
        by_cases c23 : t329 = a2
        ·
         rw [if_pos c23] at H
         have c23b0 : (t329 == a2) = true := beq_iff_eq.mpr c23
         have c23b1 : (t329 != a2) = false := bne_eq_false_iff_eq.mpr c23
         clear c23
         obtain rfl := Option.some.inj H
         obtain ⟨hcz24_0, hcz24_1, hcz24_2⟩ := bc3 BK326.out
         obtain ⟨hfz24_0, hfz24_1, hfz24_2⟩ := bf3 BK326.out
         obtain ⟨Ao25, co25, eo25⟩ := Kd.R_slice HO_15.out
         subst eo25
         go_wp2_with (first | ((with_reducible refine gate_callee (f := 34) rfl ?_); refine goesL_ (some 53) rfl rfl Tryd.func34 (by kernel_rfl) rfl #[.agg #[.int .i64 a0_0, .slice A0_1 l0_1.length c0_1, .slice A0_2 l0_2.length c0_2], .int .i64 a2, .slice A3 l3.length c3, .slice Ao25 x15_1.length co25] rfl mapz ?_; (with_reducible refine (feed_IsOrder.calls k1 a0_0 _ _ l0_1 _ _ l0_2 a2 _ _ l3 _ _ x15_1 t335 t336 _ (cbz HR0_1) HC0_1.out (cbz HR0_2) HC0_2.out (cbz HR3) HC3.out ?side7 ?side8 (tbz HT) A18.out).mono ?_); (case side7 => repeat (first | exact (Kd.R_reads' HO_15.out).2.2 | (with_reducible refine Kd.C_alloc ?_ _) | (with_reducible refine Kd.C_drewN ?_ _) | (with_reducible refine Kd.C_drew ?_))); (case side8 => exact (Kd.R_reads' HO_15.out).2.1); rintro e w26 ⟨rfl, hb⟩; refine ⟨_, rfl, ?_⟩; replace HO_15 := Aside0.mk (Kd.R_below (ownx HO_15) hb); replace BK326 := Aside0.mk (blk_below (g := gb326) blkz hb); replace HB := Aside0.mk (below_step bel hb); clear hb))
         go_ret
         exact ⟨ezz, bel⟩
        ·
         rw [if_neg c23] at H
         have c23b0 : (t329 == a2) = false := beq_eq_false_iff_ne.mpr c23
         have c23b1 : (t329 != a2) = true := bne_iff_ne.mpr c23
         obtain rfl := Option.some.inj H
         obtain ⟨hcz27_0, hcz27_1, hcz27_2⟩ := bc3 BK326.out
         obtain ⟨hfz27_0, hfz27_1, hfz27_2⟩ := bf3 BK326.out
         obtain ⟨Ao28, co28, eo28⟩ := Kd.R_slice HO_15.out
         subst eo28
         go_wp2_with (first | ((with_reducible refine gate_callee (f := 34) rfl ?_); refine goesL_ (some 53) rfl rfl Tryd.func34 (by kernel_rfl) rfl #[.agg #[.int .i64 a0_0, .slice A0_1 l0_1.length c0_1, .slice A0_2 l0_2.length c0_2], .int .i64 a2, .slice A3 l3.length c3, .slice Ao28 x15_1.length co28] rfl mapz ?_; (with_reducible refine (feed_IsOrder.calls k1 a0_0 _ _ l0_1 _ _ l0_2 a2 _ _ l3 _ _ x15_1 t335 t336 _ (cbz HR0_1) HC0_1.out (cbz HR0_2) HC0_2.out (cbz HR3) HC3.out ?side7 ?side8 (tbz HT) A18.out).mono ?_); (case side7 => repeat (first | exact (Kd.R_reads' HO_15.out).2.2 | (with_reducible refine Kd.C_alloc ?_ _) | (with_reducible refine Kd.C_drewN ?_ _) | (with_reducible refine Kd.C_drew ?_))); (case side8 => exact (Kd.R_reads' HO_15.out).2.1); rintro e w29 ⟨rfl, hb⟩; refine ⟨_, rfl, ?_⟩; replace HO_15 := Aside0.mk (Kd.R_below (ownx HO_15) hb); replace BK326 := Aside0.mk (blk_below (g := gb326) blkz hb); replace HB := Aside0.mk (below_step bel hb); clear hb))
         go_ret
         exact ⟨ezz, bel⟩
       ·
        replace c22 := Bool.eq_false_iff.mpr c22
        subst c22
        rw [if_neg (show ¬ (false = true) by decide)] at H
        obtain rfl := Option.some.inj H
        obtain ⟨hcz30_0, hcz30_1, hcz30_2⟩ := bc3 BK326.out
        obtain ⟨hfz30_0, hfz30_1, hfz30_2⟩ := bf3 BK326.out
        obtain ⟨Ao31, co31, eo31⟩ := Kd.R_slice HO_15.out
        subst eo31
        go_wp2_with (first | ((with_reducible refine gate_callee (f := 34) rfl ?_); refine goesL_ (some 53) rfl rfl Tryd.func34 (by kernel_rfl) rfl #[.agg #[.int .i64 a0_0, .slice A0_1 l0_1.length c0_1, .slice A0_2 l0_2.length c0_2], .int .i64 a2, .slice A3 l3.length c3, .slice Ao31 x15_1.length co31] rfl mapz ?_; (with_reducible refine (feed_IsOrder.calls k1 a0_0 _ _ l0_1 _ _ l0_2 a2 _ _ l3 _ _ x15_1 t335 t336 _ (cbz HR0_1) HC0_1.out (cbz HR0_2) HC0_2.out (cbz HR3) HC3.out ?side7 ?side8 (tbz HT) A18.out).mono ?_); (case side7 => repeat (first | exact (Kd.R_reads' HO_15.out).2.2 | (with_reducible refine Kd.C_alloc ?_ _) | (with_reducible refine Kd.C_drewN ?_ _) | (with_reducible refine Kd.C_drew ?_))); (case side8 => exact (Kd.R_reads' HO_15.out).2.1); rintro e w32 ⟨rfl, hb⟩; refine ⟨_, rfl, ?_⟩; replace HO_15 := Aside0.mk (Kd.R_below (ownx HO_15) hb); replace BK326 := Aside0.mk (blk_below (g := gb326) blkz hb); replace HB := Aside0.mk (below_step bel hb); clear hb))
        go_ret
        exact ⟨ezz, bel⟩
      ·
       rw [if_neg c21] at H
       have c21b0 : (t336 == 0) = false := beq_eq_false_iff_ne.mpr c21
       have c21b1 : (t336 != 0) = true := bne_iff_ne.mpr c21
       obtain rfl := Option.some.inj H
       obtain ⟨hcz33_0, hcz33_1, hcz33_2⟩ := bc3 BK326.out
       obtain ⟨hfz33_0, hfz33_1, hfz33_2⟩ := bf3 BK326.out
       obtain ⟨Ao34, co34, eo34⟩ := Kd.R_slice HO_15.out
       subst eo34
       go_wp2_with (first | ((with_reducible refine gate_callee (f := 34) rfl ?_); refine goesL_ (some 53) rfl rfl Tryd.func34 (by kernel_rfl) rfl #[.agg #[.int .i64 a0_0, .slice A0_1 l0_1.length c0_1, .slice A0_2 l0_2.length c0_2], .int .i64 a2, .slice A3 l3.length c3, .slice Ao34 x15_1.length co34] rfl mapz ?_; (with_reducible refine (feed_IsOrder.calls k1 a0_0 _ _ l0_1 _ _ l0_2 a2 _ _ l3 _ _ x15_1 t335 t336 _ (cbz HR0_1) HC0_1.out (cbz HR0_2) HC0_2.out (cbz HR3) HC3.out ?side7 ?side8 (tbz HT) A18.out).mono ?_); (case side7 => repeat (first | exact (Kd.R_reads' HO_15.out).2.2 | (with_reducible refine Kd.C_alloc ?_ _) | (with_reducible refine Kd.C_drewN ?_ _) | (with_reducible refine Kd.C_drew ?_))); (case side8 => exact (Kd.R_reads' HO_15.out).2.1); rintro e w35 ⟨rfl, hb⟩; refine ⟨_, rfl, ?_⟩; replace HO_15 := Aside0.mk (Kd.R_below (ownx HO_15) hb); replace BK326 := Aside0.mk (blk_below (g := gb326) blkz hb); replace HB := Aside0.mk (below_step bel hb); clear hb))
       go_ret
       exact ⟨ezz, bel⟩
     ·
      rw [if_neg c20] at H
      have c20b0 : (t330 == 0) = false := beq_eq_false_iff_ne.mpr c20
      have c20b1 : (t330 != 0) = true := bne_iff_ne.mpr c20
      obtain rfl := Option.some.inj H
      obtain ⟨hcz36_0, hcz36_1, hcz36_2⟩ := bc3 BK326.out
      obtain ⟨hfz36_0, hfz36_1, hfz36_2⟩ := bf3 BK326.out
      obtain ⟨Ao37, co37, eo37⟩ := Kd.R_slice HO_15.out
      subst eo37
      go_wp2_with (first | ((with_reducible refine gate_callee (f := 34) rfl ?_); refine goesL_ (some 53) rfl rfl Tryd.func34 (by kernel_rfl) rfl #[.agg #[.int .i64 a0_0, .slice A0_1 l0_1.length c0_1, .slice A0_2 l0_2.length c0_2], .int .i64 a2, .slice A3 l3.length c3, .slice Ao37 x15_1.length co37] rfl mapz ?_; (with_reducible refine (feed_IsOrder.calls k1 a0_0 _ _ l0_1 _ _ l0_2 a2 _ _ l3 _ _ x15_1 t335 t336 _ (cbz HR0_1) HC0_1.out (cbz HR0_2) HC0_2.out (cbz HR3) HC3.out ?side7 ?side8 (tbz HT) A18.out).mono ?_); (case side7 => repeat (first | exact (Kd.R_reads' HO_15.out).2.2 | (with_reducible refine Kd.C_alloc ?_ _) | (with_reducible refine Kd.C_drewN ?_ _) | (with_reducible refine Kd.C_drew ?_))); (case side8 => exact (Kd.R_reads' HO_15.out).2.1); rintro e w38 ⟨rfl, hb⟩; refine ⟨_, rfl, ?_⟩; replace HO_15 := Aside0.mk (Kd.R_below (ownx HO_15) hb); replace BK326 := Aside0.mk (blk_below (g := gb326) blkz hb); replace HB := Aside0.mk (below_step bel hb); clear hb))
      go_ret
      exact ⟨ezz, bel⟩
    ·
     rw [if_neg c19] at H
     have c19b0 : (t328 == 0) = false := beq_eq_false_iff_ne.mpr c19
     have c19b1 : (t328 != 0) = true := bne_iff_ne.mpr c19
     obtain rfl := Option.some.inj H
     obtain ⟨hcz39_0, hcz39_1, hcz39_2⟩ := bc3 BK326.out
     obtain ⟨hfz39_0, hfz39_1, hfz39_2⟩ := bf3 BK326.out
     obtain ⟨Ao40, co40, eo40⟩ := Kd.R_slice HO_15.out
     subst eo40
     go_wp2_with (first | ((with_reducible refine gate_callee (f := 34) rfl ?_); refine goesL_ (some 53) rfl rfl Tryd.func34 (by kernel_rfl) rfl #[.agg #[.int .i64 a0_0, .slice A0_1 l0_1.length c0_1, .slice A0_2 l0_2.length c0_2], .int .i64 a2, .slice A3 l3.length c3, .slice Ao40 x15_1.length co40] rfl mapz ?_; (with_reducible refine (feed_IsOrder.calls k1 a0_0 _ _ l0_1 _ _ l0_2 a2 _ _ l3 _ _ x15_1 t335 t336 _ (cbz HR0_1) HC0_1.out (cbz HR0_2) HC0_2.out (cbz HR3) HC3.out ?side7 ?side8 (tbz HT) A18.out).mono ?_); (case side7 => repeat (first | exact (Kd.R_reads' HO_15.out).2.2 | (with_reducible refine Kd.C_alloc ?_ _) | (with_reducible refine Kd.C_drewN ?_ _) | (with_reducible refine Kd.C_drew ?_))); (case side8 => exact (Kd.R_reads' HO_15.out).2.1); rintro e w41 ⟨rfl, hb⟩; refine ⟨_, rfl, ?_⟩; replace HO_15 := Aside0.mk (Kd.R_below (ownx HO_15) hb); replace BK326 := Aside0.mk (blk_below (g := gb326) blkz hb); replace HB := Aside0.mk (below_step bel hb); clear hb))
     go_ret
     exact ⟨ezz, bel⟩

/-! ### dropperref05_begun: function 35 -/
def dropperref05_begun.f (k : Nat) (a0_0 : Int) (l0_1 : List (S47)) (l0_2 : List (S49)) (a1 : Int) (l2 : List Int) : Option (Int) := (dropperref05_Valid.f k a0_0 l0_1 l0_2).bind fun t338 => (if t338 = true then ((dropperref05_IsKeep.f k a0_0 l0_1 l0_2 l2).bind fun t339 => (if t339 = true then ((dropperref05_Good.f k a0_0 l0_1 l0_2 a1 l2).bind fun t340 => (if t340 = true then (some 0) else (some 51))) else (some 2))) else (some 50))
set_option maxHeartbeats 8000000 in
set_option maxRecDepth 100000 in
theorem dropperref05_begun.calls (k : Nat) (a0_0 : Int) (A0_1 : Option Addr) (c0_1 : Nat) (l0_1 : List (S47)) (A0_2 : Option Addr) (c0_2 : Nat) (l0_2 : List (S49)) (a1 : Int) (A2 : Option Addr) (c2 : Nat) (l2 : List Int) (r : Int) (w : World) (hr0_1 : Kd.C k47 w A0_1 l0_1.length l0_1) (hc0_1 : l0_1.length ≤ c0_1) (hr0_2 : Kd.C k49 w A0_2 l0_2.length l0_2) (hc0_2 : l0_2.length ≤ c0_2) (hr2 : Kd.C (Kd.int .i64) w A2 l2.length l2) (hc2 : l2.length ≤ c2) (h : dropperref05_begun.f k a0_0 l0_1 l0_2 a1 l2 = some r) :
  Calls Tryd.prog 35 #[.agg #[.int .i64 a0_0, .slice A0_1 l0_1.length c0_1, .slice A0_2 l0_2.length c0_2], .int .i64 a1, .slice A2 l2.length c2] w fun e w' => e = .returned (.int .i64 r) ∧ Below w.heap.size w w' := by
 have hu25 := Tryd.underlying25
 have HR0_1 := Aside0.mk hr0_1
 have HC0_1 := Aside0.mk hc0_1
 clear hr0_1 hc0_1
 have HR0_2 := Aside0.mk hr0_2
 have HC0_2 := Aside0.mk hc0_2
 clear hr0_2 hc0_2
 have HR2 := Aside0.mk hr2
 have HC2 := Aside0.mk hc2
 clear hr2 hc2
 have HB := Aside0.mk (Below.refl w.heap.size w)
 have H : ((dropperref05_Valid.f k a0_0 l0_1 l0_2).bind fun t338 => (if t338 = true then ((dropperref05_IsKeep.f k a0_0 l0_1 l0_2 l2).bind fun t339 => (if t339 = true then ((dropperref05_Good.f k a0_0 l0_1 l0_2 a1 l2).bind fun t340 => (if t340 = true then (some 0) else (some 51))) else (some 2))) else (some 50))) = some r := h
 clear h
 replace H := Option.bind_eq_some_iff.mp H
 obtain ⟨t338, A40, H⟩ := H
 try dsimp only at H
 have A4 := Aside0.mk A40
 clear A40
 by_cases c5 : t338 = true
 ·
  subst c5
  rw [if_pos rfl] at H
  replace H := Option.bind_eq_some_iff.mp H
  obtain ⟨t339, A60, H⟩ := H
  try dsimp only at H
  have A6 := Aside0.mk A60
  clear A60
  by_cases c7 : t339 = true
  ·
   subst c7
   rw [if_pos rfl] at H
   replace H := Option.bind_eq_some_iff.mp H
   obtain ⟨t340, A80, H⟩ := H
   try dsimp only at H
   have A8 := Aside0.mk A80
   clear A80
   by_cases c9 : t340 = true
   ·
    subst c9
    rw [if_pos rfl] at H
    obtain rfl := Option.some.inj H
    go_enter Tryd.func35, Tryd.ntmps35
    go_wp2_with (first | ((with_reducible refine gate_dst (N := 3) rfl ?_); refine box_event ?hg (N := 3) ?hd (cs := #[.int .i64 a0_0, .slice A0_1 l0_1.length c0_1, .slice A0_2 l0_2.length c0_2]) (t := 25) ?hr ?_; (case hd => rfl); (case hg => rfl); (case hr => first | (go_simp; done) | (go_simp; rfl)); intro gb337 hg w10 hbox hb; have BK337 := Aside0.mk (hbox); have GW337 := bsz (w := w) hg; have GE337 := GW337; replace HB := Aside0.mk (below_step bel hb); clear hb hbox hg; obtain ⟨hcz11_0, hcz11_1, hcz11_2⟩ := bc3 BK337.out) | ((with_reducible refine gate_callee (f := 4) rfl ?_); refine goesL_ (some 9) rfl rfl Tryd.func4 (by kernel_rfl) rfl #[.agg #[.int .i64 a0_0, .slice A0_1 l0_1.length c0_1, .slice A0_2 l0_2.length c0_2]] rfl mapz ?_; (with_reducible refine (dropperref05_Valid.calls k a0_0 _ _ l0_1 _ _ l0_2 true _ (cbz HR0_1) HC0_1.out (cbz HR0_2) HC0_2.out A4.out).mono ?_); rintro e w12 ⟨rfl, hb⟩; refine ⟨_, rfl, ?_⟩; replace BK337 := Aside0.mk (blk_below (g := gb337) blkz hb); replace HB := Aside0.mk (below_step bel hb); clear hb; obtain ⟨hcz13_0, hcz13_1, hcz13_2⟩ := bc3 BK337.out) | ((with_reducible refine gate_callee (f := 5) rfl ?_); refine goesL_ (some 14) rfl rfl Tryd.func5 (by kernel_rfl) rfl #[.agg #[.int .i64 a0_0, .slice A0_1 l0_1.length c0_1, .slice A0_2 l0_2.length c0_2], .slice A2 l2.length c2] rfl mapz ?_; (with_reducible refine (dropperref05_IsKeep.calls k a0_0 _ _ l0_1 _ _ l0_2 _ _ l2 true _ (cbz HR0_1) HC0_1.out (cbz HR0_2) HC0_2.out (cbz HR2) HC2.out A6.out).mono ?_); rintro e w14 ⟨rfl, hb⟩; refine ⟨_, rfl, ?_⟩; replace BK337 := Aside0.mk (blk_below (g := gb337) blkz hb); replace HB := Aside0.mk (below_step bel hb); clear hb; obtain ⟨hcz15_0, hcz15_1, hcz15_2⟩ := bc3 BK337.out) | ((with_reducible refine gate_callee (f := 6) rfl ?_); refine goesL_ (some 20) rfl rfl Tryd.func6 (by kernel_rfl) rfl #[.agg #[.int .i64 a0_0, .slice A0_1 l0_1.length c0_1, .slice A0_2 l0_2.length c0_2], .int .i64 a1, .slice A2 l2.length c2] rfl mapz ?_; (with_reducible refine (dropperref05_Good.calls k a0_0 _ _ l0_1 _ _ l0_2 a1 _ _ l2 true _ (cbz HR0_1) HC0_1.out (cbz HR0_2) HC0_2.out (cbz HR2) HC2.out A8.out).mono ?_); rintro e w16 ⟨rfl, hb⟩; refine ⟨_, rfl, ?_⟩; replace BK337 := Aside0.mk (blk_below (g := gb337) blkz hb); replace HB := Aside0.mk (below_step bel hb); clear hb))
    go_ret
    exact ⟨ezz, bel⟩
   ·
    replace c9 := Bool.eq_false_iff.mpr c9
    subst c9
    rw [if_neg (show ¬ (false = true) by decide)] at H
    obtain rfl := Option.some.inj H
    go_enter Tryd.func35, Tryd.ntmps35
    go_wp2_with (first | ((with_reducible refine gate_dst (N := 3) rfl ?_); refine box_event ?hg (N := 3) ?hd (cs := #[.int .i64 a0_0, .slice A0_1 l0_1.length c0_1, .slice A0_2 l0_2.length c0_2]) (t := 25) ?hr ?_; (case hd => rfl); (case hg => rfl); (case hr => first | (go_simp; done) | (go_simp; rfl)); intro gb337 hg w17 hbox hb; have BK337 := Aside0.mk (hbox); have GW337 := bsz (w := w) hg; have GE337 := GW337; replace HB := Aside0.mk (below_step bel hb); clear hb hbox hg; obtain ⟨hcz18_0, hcz18_1, hcz18_2⟩ := bc3 BK337.out) | ((with_reducible refine gate_callee (f := 4) rfl ?_); refine goesL_ (some 9) rfl rfl Tryd.func4 (by kernel_rfl) rfl #[.agg #[.int .i64 a0_0, .slice A0_1 l0_1.length c0_1, .slice A0_2 l0_2.length c0_2]] rfl mapz ?_; (with_reducible refine (dropperref05_Valid.calls k a0_0 _ _ l0_1 _ _ l0_2 true _ (cbz HR0_1) HC0_1.out (cbz HR0_2) HC0_2.out A4.out).mono ?_); rintro e w19 ⟨rfl, hb⟩; refine ⟨_, rfl, ?_⟩; replace BK337 := Aside0.mk (blk_below (g := gb337) blkz hb); replace HB := Aside0.mk (below_step bel hb); clear hb; obtain ⟨hcz20_0, hcz20_1, hcz20_2⟩ := bc3 BK337.out) | ((with_reducible refine gate_callee (f := 5) rfl ?_); refine goesL_ (some 14) rfl rfl Tryd.func5 (by kernel_rfl) rfl #[.agg #[.int .i64 a0_0, .slice A0_1 l0_1.length c0_1, .slice A0_2 l0_2.length c0_2], .slice A2 l2.length c2] rfl mapz ?_; (with_reducible refine (dropperref05_IsKeep.calls k a0_0 _ _ l0_1 _ _ l0_2 _ _ l2 true _ (cbz HR0_1) HC0_1.out (cbz HR0_2) HC0_2.out (cbz HR2) HC2.out A6.out).mono ?_); rintro e w21 ⟨rfl, hb⟩; refine ⟨_, rfl, ?_⟩; replace BK337 := Aside0.mk (blk_below (g := gb337) blkz hb); replace HB := Aside0.mk (below_step bel hb); clear hb; obtain ⟨hcz22_0, hcz22_1, hcz22_2⟩ := bc3 BK337.out) | ((with_reducible refine gate_callee (f := 6) rfl ?_); refine goesL_ (some 20) rfl rfl Tryd.func6 (by kernel_rfl) rfl #[.agg #[.int .i64 a0_0, .slice A0_1 l0_1.length c0_1, .slice A0_2 l0_2.length c0_2], .int .i64 a1, .slice A2 l2.length c2] rfl mapz ?_; (with_reducible refine (dropperref05_Good.calls k a0_0 _ _ l0_1 _ _ l0_2 a1 _ _ l2 false _ (cbz HR0_1) HC0_1.out (cbz HR0_2) HC0_2.out (cbz HR2) HC2.out A8.out).mono ?_); rintro e w23 ⟨rfl, hb⟩; refine ⟨_, rfl, ?_⟩; replace BK337 := Aside0.mk (blk_below (g := gb337) blkz hb); replace HB := Aside0.mk (below_step bel hb); clear hb))
    go_ret
    exact ⟨ezz, bel⟩
  ·
   replace c7 := Bool.eq_false_iff.mpr c7
   subst c7
   rw [if_neg (show ¬ (false = true) by decide)] at H
   obtain rfl := Option.some.inj H
   go_enter Tryd.func35, Tryd.ntmps35
   go_wp2_with (first | ((with_reducible refine gate_dst (N := 3) rfl ?_); refine box_event ?hg (N := 3) ?hd (cs := #[.int .i64 a0_0, .slice A0_1 l0_1.length c0_1, .slice A0_2 l0_2.length c0_2]) (t := 25) ?hr ?_; (case hd => rfl); (case hg => rfl); (case hr => first | (go_simp; done) | (go_simp; rfl)); intro gb337 hg w24 hbox hb; have BK337 := Aside0.mk (hbox); have GW337 := bsz (w := w) hg; have GE337 := GW337; replace HB := Aside0.mk (below_step bel hb); clear hb hbox hg; obtain ⟨hcz25_0, hcz25_1, hcz25_2⟩ := bc3 BK337.out) | ((with_reducible refine gate_callee (f := 4) rfl ?_); refine goesL_ (some 9) rfl rfl Tryd.func4 (by kernel_rfl) rfl #[.agg #[.int .i64 a0_0, .slice A0_1 l0_1.length c0_1, .slice A0_2 l0_2.length c0_2]] rfl mapz ?_; (with_reducible refine (dropperref05_Valid.calls k a0_0 _ _ l0_1 _ _ l0_2 true _ (cbz HR0_1) HC0_1.out (cbz HR0_2) HC0_2.out A4.out).mono ?_); rintro e w26 ⟨rfl, hb⟩; refine ⟨_, rfl, ?_⟩; replace BK337 := Aside0.mk (blk_below (g := gb337) blkz hb); replace HB := Aside0.mk (below_step bel hb); clear hb; obtain ⟨hcz27_0, hcz27_1, hcz27_2⟩ := bc3 BK337.out) | ((with_reducible refine gate_callee (f := 5) rfl ?_); refine goesL_ (some 14) rfl rfl Tryd.func5 (by kernel_rfl) rfl #[.agg #[.int .i64 a0_0, .slice A0_1 l0_1.length c0_1, .slice A0_2 l0_2.length c0_2], .slice A2 l2.length c2] rfl mapz ?_; (with_reducible refine (dropperref05_IsKeep.calls k a0_0 _ _ l0_1 _ _ l0_2 _ _ l2 false _ (cbz HR0_1) HC0_1.out (cbz HR0_2) HC0_2.out (cbz HR2) HC2.out A6.out).mono ?_); rintro e w28 ⟨rfl, hb⟩; refine ⟨_, rfl, ?_⟩; replace BK337 := Aside0.mk (blk_below (g := gb337) blkz hb); replace HB := Aside0.mk (below_step bel hb); clear hb))
   go_ret
   exact ⟨ezz, bel⟩
 ·
  replace c5 := Bool.eq_false_iff.mpr c5
  subst c5
  rw [if_neg (show ¬ (false = true) by decide)] at H
  obtain rfl := Option.some.inj H
  go_enter Tryd.func35, Tryd.ntmps35
  go_wp2_with (first | ((with_reducible refine gate_dst (N := 3) rfl ?_); refine box_event ?hg (N := 3) ?hd (cs := #[.int .i64 a0_0, .slice A0_1 l0_1.length c0_1, .slice A0_2 l0_2.length c0_2]) (t := 25) ?hr ?_; (case hd => rfl); (case hg => rfl); (case hr => first | (go_simp; done) | (go_simp; rfl)); intro gb337 hg w29 hbox hb; have BK337 := Aside0.mk (hbox); have GW337 := bsz (w := w) hg; have GE337 := GW337; replace HB := Aside0.mk (below_step bel hb); clear hb hbox hg; obtain ⟨hcz30_0, hcz30_1, hcz30_2⟩ := bc3 BK337.out) | ((with_reducible refine gate_callee (f := 4) rfl ?_); refine goesL_ (some 9) rfl rfl Tryd.func4 (by kernel_rfl) rfl #[.agg #[.int .i64 a0_0, .slice A0_1 l0_1.length c0_1, .slice A0_2 l0_2.length c0_2]] rfl mapz ?_; (with_reducible refine (dropperref05_Valid.calls k a0_0 _ _ l0_1 _ _ l0_2 false _ (cbz HR0_1) HC0_1.out (cbz HR0_2) HC0_2.out A4.out).mono ?_); rintro e w31 ⟨rfl, hb⟩; refine ⟨_, rfl, ?_⟩; replace BK337 := Aside0.mk (blk_below (g := gb337) blkz hb); replace HB := Aside0.mk (below_step bel hb); clear hb))
  go_ret
  exact ⟨ezz, bel⟩

/-! ### dropperref05_isList: function 36 -/
def dropperref05_isList.l0 : Nat → List Int → Int → Int → List (S47) → List (S49) → Option (Bool)
 | 0, _, _, _, _, _ => none
 | k + 1, x1, x5, x342000, x342001, x342002 => if x5 < (x1.length : Int) then (if 0 ≤ x5 then (if (rd x1 x5) < 0 then (some false) else (if (rd x1 x5) ≥ (x342001.length : Int) then (some false) else (dropperref05_isList.l0 k x1 (wrap64 (x5 + 1)) x342000 x342001 x342002))) else (none)) else (some (decide ((x1.length : Int) ≤ 1000)))
def dropperref05_isList.f (k : Nat) (a0_0 : Int) (l0_1 : List (S47)) (l0_2 : List (S49)) (l1 : List Int) : Option (Bool) := dropperref05_isList.l0 k l1 0 a0_0 l0_1 l0_2
set_option maxHeartbeats 8000000 in
set_option maxRecDepth 100000 in
theorem dropperref05_isList.calls (k : Nat) (a0_0 : Int) (A0_1 : Option Addr) (c0_1 : Nat) (l0_1 : List (S47)) (A0_2 : Option Addr) (c0_2 : Nat) (l0_2 : List (S49)) (A1 : Option Addr) (c1 : Nat) (l1 : List Int) (r : Bool) (w : World) (hr0_1 : Kd.C k47 w A0_1 l0_1.length l0_1) (hc0_1 : l0_1.length ≤ c0_1) (hr0_2 : Kd.C k49 w A0_2 l0_2.length l0_2) (hc0_2 : l0_2.length ≤ c0_2) (hr1 : Kd.C (Kd.int .i64) w A1 l1.length l1) (hc1 : l1.length ≤ c1) (h : dropperref05_isList.f k a0_0 l0_1 l0_2 l1 = some r) :
  Calls Tryd.prog 36 #[.agg #[.int .i64 a0_0, .slice A0_1 l0_1.length c0_1, .slice A0_2 l0_2.length c0_2], .slice A1 l1.length c1] w fun e w' => e = .returned (.bool r) ∧ Below w.heap.size w w' := by
 have hu25 := Tryd.underlying25
 have HR0_1 := Aside0.mk hr0_1
 have HC0_1 := Aside0.mk hc0_1
 clear hr0_1 hc0_1
 have HR0_2 := Aside0.mk hr0_2
 have HC0_2 := Aside0.mk hc0_2
 clear hr0_2 hc0_2
 have HR1 := Aside0.mk hr1
 have HC1 := Aside0.mk hc1
 clear hr1 hc1
 have HB := Aside0.mk (Below.refl w.heap.size w)
 have H : (dropperref05_isList.l0 k l1 0 a0_0 l0_1 l0_2) = some r := h
 clear h
 have H' := Aside0.mk H
 clear H
 go_enter Tryd.func36, Tryd.ntmps36
 go_wp2_with (first | ((with_reducible refine gate_dst (N := 2) rfl ?_); (try (refine gate_guard (by rfl) ?_; dsimp only)); refine box_event ?hg (N := 2) ?hd (cs := #[.int .i64 a0_0, .slice A0_1 l0_1.length c0_1, .slice A0_2 l0_2.length c0_2]) (t := 25) ?hr ?_; (case hd => rfl); (case hg => rfl); (case hr => first | (go_simp; done) | (go_simp; rfl)); intro gb341 hg w3 hbox hb; have BK341 := Aside0.mk (hbox); have GW341 := bsz (w := w) hg; have GE341 := GW341; replace HB := Aside0.mk (below_step bel hb); clear hb hbox hg))
 repeat (go_quiet (first | ((with_reducible refine gate_dst (N := 2) rfl ?_); (try (refine gate_guard (by rfl) ?_; dsimp only)); refine box_event ?hg (N := 2) ?hd (cs := #[.int .i64 a0_0, .slice A0_1 l0_1.length c0_1, .slice A0_2 l0_2.length c0_2]) (t := 25) ?hr ?_; (case hd => rfl); (case hg => rfl); (case hr => first | (go_simp; done) | (go_simp; rfl)); intro gb341 hg w3 hbox hb; have BK341 := Aside0.mk (hbox); have GW341 := bsz (w := w) hg; have GE341 := GW341; replace HB := Aside0.mk (below_step bel hb); clear hb hbox hg)); try go_wp2_with (first | ((with_reducible refine gate_dst (N := 2) rfl ?_); (try (refine gate_guard (by rfl) ?_; dsimp only)); refine box_event ?hg (N := 2) ?hd (cs := #[.int .i64 a0_0, .slice A0_1 l0_1.length c0_1, .slice A0_2 l0_2.length c0_2]) (t := 25) ?hr ?_; (case hd => rfl); (case hg => rfl); (case hr => first | (go_simp; done) | (go_simp; rfl)); intro gb341 hg w3 hbox hb; have BK341 := Aside0.mk (hbox); have GW341 := bsz (w := w) hg; have GE341 := GW341; replace HB := Aside0.mk (below_step bel hb); clear hb hbox hg)))
 go_loopg [5] k (fun kq v5 w' => ∃ (x5_1 : Int), v5 = .int .i64 x5_1 ∧ Aside0 (dropperref05_isList.l0 kq l1 x5_1 a0_0 l0_1 l0_2 = some r) ∧ Aside0 (kq ≤ k) ∧ Aside0 (w'.heap[gb341]? = some (.cells #[.int .i64 a0_0, (.slice A0_1 l0_1.length c0_1), (.slice A0_2 l0_2.length c0_2)] 25 (0, 0))) ∧ Aside0 (Below w.heap.size w w'))
 case atStart => exact ⟨(0), rsz, H', ⟨Nat.le_refl _⟩, ⟨blkz⟩, ⟨bel⟩⟩
 case round =>
  clear H'
  (try clear c1); (try clear p2); (try clear c3)
  obtain ⟨x5_1, rfl, HA, HK1, BK341, HB⟩ := hrel
  cases gk with
  | zero => exact absurd HA.out (by simp [dropperref05_isList.l0])
  | succ k1 =>
   have H := HA.out
   clear HA
   simp only [dropperref05_isList.l0] at H
   by_cases c4 : x5_1 < (l1.length : Int)
   ·
    rw [if_pos c4] at H
    have c4b0 : decide (x5_1 < (l1.length : Int)) = true := decide_eq_true c4
    clear c4
    by_cases c5 : 0 ≤ x5_1
    ·
     rw [if_pos c5] at H
     have c5b0 : decide (0 ≤ x5_1) = true := decide_eq_true c5
     clear c5
     by_cases c6 : (rd l1 x5_1) < 0
     ·
      rw [if_pos c6] at H
      have c6b0 : decide ((rd l1 x5_1) < 0) = true := decide_eq_true c6
      clear c6
      obtain rfl := Option.some.inj H
      have p342 : 0 ≤ (x5_1 : Int) := of_decide_eq_true asz
      have q342 : x5_1 < (l1.length : Int) := of_decide_eq_true asz
      obtain ⟨ad342, e342, hx342_0⟩ := Kd.at_int HR1.out x5_1 p342 q342
      cases e342
      replace hx342_0 := (HB.out.cell (World.block_lt_of_cell? w _ hx342_0)).trans hx342_0
      replace p342 := eq_true p342
      replace q342 := eq_true q342
      go_wp2
      repeat (go_quiet (fail); try go_wp2)
      go_ret
      exact ⟨ezz, bel⟩
     ·
      rw [if_neg c6] at H
      have c6b0 : decide ((rd l1 x5_1) < 0) = false := decide_eq_false c6
      clear c6
      by_cases c7 : (rd l1 x5_1) ≥ (l0_1.length : Int)
      ·
       rw [if_pos c7] at H
       have c7b0 : decide ((l0_1.length : Int) ≤ (rd l1 x5_1)) = true := decide_eq_true c7
       clear c7
       obtain rfl := Option.some.inj H
       have p342 : 0 ≤ (x5_1 : Int) := of_decide_eq_true asz
       have q342 : x5_1 < (l1.length : Int) := of_decide_eq_true asz
       obtain ⟨ad342, e342, hx342_0⟩ := Kd.at_int HR1.out x5_1 p342 q342
       cases e342
       replace hx342_0 := (HB.out.cell (World.block_lt_of_cell? w _ hx342_0)).trans hx342_0
       replace p342 := eq_true p342
       replace q342 := eq_true q342
       have p343 : 0 ≤ (x5_1 : Int) := of_decide_eq_true asz
       have q343 : x5_1 < (l1.length : Int) := of_decide_eq_true asz
       obtain ⟨ad343, e343, hx343_0⟩ := Kd.at_int HR1.out x5_1 p343 q343
       obtain rfl : ad342 = ad343 := (by injection e343)
       replace hx343_0 := (HB.out.cell (World.block_lt_of_cell? w _ hx343_0)).trans hx343_0
       replace p343 := eq_true p343
       replace q343 := eq_true q343
       obtain ⟨hcz8_0, hcz8_1, hcz8_2⟩ := bc3 BK341.out
       obtain ⟨hfz8_0, hfz8_1, hfz8_2⟩ := bf3 BK341.out
       go_wp2
       repeat (go_quiet (fail); try go_wp2)
       go_ret
       exact ⟨ezz, bel⟩
      ·
       rw [if_neg c7] at H
       have c7b0 : decide ((l0_1.length : Int) ≤ (rd l1 x5_1)) = false := decide_eq_false c7
       clear c7
       have H' := Aside0.mk H
       clear H
       have p342 : 0 ≤ (x5_1 : Int) := of_decide_eq_true asz
       have q342 : x5_1 < (l1.length : Int) := of_decide_eq_true asz
       obtain ⟨ad342, e342, hx342_0⟩ := Kd.at_int HR1.out x5_1 p342 q342
       cases e342
       replace hx342_0 := (HB.out.cell (World.block_lt_of_cell? w _ hx342_0)).trans hx342_0
       replace p342 := eq_true p342
       replace q342 := eq_true q342
       have p343 : 0 ≤ (x5_1 : Int) := of_decide_eq_true asz
       have q343 : x5_1 < (l1.length : Int) := of_decide_eq_true asz
       obtain ⟨ad343, e343, hx343_0⟩ := Kd.at_int HR1.out x5_1 p343 q343
       obtain rfl : ad342 = ad343 := (by injection e343)
       replace hx343_0 := (HB.out.cell (World.block_lt_of_cell? w _ hx343_0)).trans hx343_0
       replace p343 := eq_true p343
       replace q343 := eq_true q343
       obtain ⟨hcz9_0, hcz9_1, hcz9_2⟩ := bc3 BK341.out
       obtain ⟨hfz9_0, hfz9_1, hfz9_2⟩ := bf3 BK341.out
       go_wp2
       repeat (go_quiet (fail); try go_wp2)
       go_roundg k1
       case measure => have := HK1.out; omega
       case rel => exact ⟨(wrap64 (x5_1 + 1)), rsz, H', ⟨by have := HK1.out; omega⟩, ⟨blkz⟩, ⟨bel⟩⟩
    ·
     rw [if_neg c5] at H
     exact absurd H (by simp)
   ·
    rw [if_neg c4] at H
    have c4b0 : decide (x5_1 < (l1.length : Int)) = false := decide_eq_false c4
    clear c4
    obtain rfl := Option.some.inj H
    go_wp2
    repeat (go_quiet (fail); try go_wp2)
    go_ret
    exact ⟨ezz, bel⟩

/-! ### dropperref05_IsOrder: function 14 -/
def dropperref05_IsOrder.l0 : Nat → Int → List Int → List Int → Int → Int → List (S47) → List (S49) → Option (Bool × Int)
 | 0, _, _, _, _, _, _, _ => none
 | k + 1, x1, x2, x3, x11, x345000, x345001, x345002 => if x11 < (x3.length : Int) then (if 0 ≤ x11 then (if 0 ≤ (rd x3 x11) then ((dropperref05_Good.f k x345000 x345001 x345002 (Go.bits .xor .i64 x1 (shl .i64 1 (rd x3 x11))) x2).bind fun t348 => (if t348 = true then (dropperref05_IsOrder.l0 k (Go.bits .xor .i64 x1 (shl .i64 1 (rd x3 x11))) x2 x3 (wrap64 (x11 + 1)) x345000 x345001 x345002) else (some (false, 0)))) else (none)) else (none)) else (some (true, 0))
def dropperref05_IsOrder.f (k : Nat) (a0_0 : Int) (l0_1 : List (S47)) (l0_2 : List (S49)) (a1 : Int) (l2 : List Int) (l3 : List Int) : Option (Bool × Int) := (dropperref05_begun.f k a0_0 l0_1 l0_2 a1 l2).bind fun t345 => (if t345 = 0 then ((dropperref05_isList.f k a0_0 l0_1 l0_2 l3).bind fun t346 => (if t346 = true then (dropperref05_IsOrder.l0 k a1 l2 l3 0 a0_0 l0_1 l0_2) else (some (false, 2)))) else (some (false, t345)))
set_option maxHeartbeats 8000000 in
set_option maxRecDepth 100000 in
theorem dropperref05_IsOrder.calls (k : Nat) (a0_0 : Int) (A0_1 : Option Addr) (c0_1 : Nat) (l0_1 : List (S47)) (A0_2 : Option Addr) (c0_2 : Nat) (l0_2 : List (S49)) (a1 : Int) (A2 : Option Addr) (c2 : Nat) (l2 : List Int) (A3 : Option Addr) (c3 : Nat) (l3 : List Int) (r1 : Bool) (r2 : Int) (w : World) (hr0_1 : Kd.C k47 w A0_1 l0_1.length l0_1) (hc0_1 : l0_1.length ≤ c0_1) (hr0_2 : Kd.C k49 w A0_2 l0_2.length l0_2) (hc0_2 : l0_2.length ≤ c0_2) (hr2 : Kd.C (Kd.int .i64) w A2 l2.length l2) (hc2 : l2.length ≤ c2) (hr3 : Kd.C (Kd.int .i64) w A3 l3.length l3) (hc3 : l3.length ≤ c3) (h : dropperref05_IsOrder.f k a0_0 l0_1 l0_2 a1 l2 l3 = some (r1, r2)) :
  Calls Tryd.prog 14 #[.agg #[.int .i64 a0_0, .slice A0_1 l0_1.length c0_1, .slice A0_2 l0_2.length c0_2], .int .i64 a1, .slice A2 l2.length c2, .slice A3 l3.length c3] w fun e w' => e = .returned (.tuple #[.bool r1, .int .i64 r2]) ∧ Below w.heap.size w w' := by
 have hu25 := Tryd.underlying25
 have HR0_1 := Aside0.mk hr0_1
 have HC0_1 := Aside0.mk hc0_1
 clear hr0_1 hc0_1
 have HR0_2 := Aside0.mk hr0_2
 have HC0_2 := Aside0.mk hc0_2
 clear hr0_2 hc0_2
 have HR2 := Aside0.mk hr2
 have HC2 := Aside0.mk hc2
 clear hr2 hc2
 have HR3 := Aside0.mk hr3
 have HC3 := Aside0.mk hc3
 clear hr3 hc3
 have HB := Aside0.mk (Below.refl w.heap.size w)
 have H : ((dropperref05_begun.f k a0_0 l0_1 l0_2 a1 l2).bind fun t345 => (if t345 = 0 then ((dropperref05_isList.f k a0_0 l0_1 l0_2 l3).bind fun t346 => (if t346 = true then (dropperref05_IsOrder.l0 k a1 l2 l3 0 a0_0 l0_1 l0_2) else (some (false, 2)))) else (some (false, t345)))) = some (r1, r2) := h
 clear h
 replace H := Option.bind_eq_some_iff.mp H
 obtain ⟨t345, A50, H⟩ := H
 try dsimp only at H
 have A5 := Aside0.mk A50
 clear A50
 by_cases c6 : t345 = 0
 ·
  rw [if_pos c6] at H
  have c6b0 : (t345 == 0) = true := beq_iff_eq.mpr c6
  have c6b1 : (t345 != 0) = false := bne_eq_false_iff_eq.mpr c6
  clear c6
  replace H := Option.bind_eq_some_iff.mp H
  obtain ⟨t346, A70, H⟩ := H
  try dsimp only at H
  have A7 := Aside0.mk A70
  clear A70
  by_cases c8 : t346 = true
  ·
   subst c8
   rw [if_pos rfl] at H
   have H' := Aside0.mk H
   clear H
   go_enter Tryd.func14, Tryd.ntmps14
   go_wp2_with (first | ((with_reducible refine gate_dst (N := 4) rfl ?_); refine box_event ?hg (N := 4) ?hd (cs := #[.int .i64 a0_0, .slice A0_1 l0_1.length c0_1, .slice A0_2 l0_2.length c0_2]) (t := 25) ?hr ?_; (case hd => rfl); (case hg => rfl); (case hr => first | (go_simp; done) | (go_simp; rfl)); intro gb344 hg w9 hbox hb; have BK344 := Aside0.mk (hbox); have GW344 := bsz (w := w) hg; have GE344 := GW344; replace HB := Aside0.mk (below_step bel hb); clear hb hbox hg; obtain ⟨hcz10_0, hcz10_1, hcz10_2⟩ := bc3 BK344.out) | ((with_reducible refine gate_callee (f := 35) rfl ?_); refine goesL_ (some 15) rfl rfl Tryd.func35 (by kernel_rfl) rfl #[.agg #[.int .i64 a0_0, .slice A0_1 l0_1.length c0_1, .slice A0_2 l0_2.length c0_2], .int .i64 a1, .slice A2 l2.length c2] rfl mapz ?_; (with_reducible refine (dropperref05_begun.calls k a0_0 _ _ l0_1 _ _ l0_2 a1 _ _ l2 t345 _ (cbz HR0_1) HC0_1.out (cbz HR0_2) HC0_2.out (cbz HR2) HC2.out A5.out).mono ?_); rintro e w11 ⟨rfl, hb⟩; refine ⟨_, rfl, ?_⟩; replace BK344 := Aside0.mk (blk_below (g := gb344) blkz hb); replace HB := Aside0.mk (below_step bel hb); clear hb; obtain ⟨hcz12_0, hcz12_1, hcz12_2⟩ := bc3 BK344.out) | ((with_reducible refine gate_callee (f := 36) rfl ?_); refine goesL_ (some 21) rfl rfl Tryd.func36 (by kernel_rfl) rfl #[.agg #[.int .i64 a0_0, .slice A0_1 l0_1.length c0_1, .slice A0_2 l0_2.length c0_2], .slice A3 l3.length c3] rfl mapz ?_; (with_reducible refine (dropperref05_isList.calls k a0_0 _ _ l0_1 _ _ l0_2 _ _ l3 true _ (cbz HR0_1) HC0_1.out (cbz HR0_2) HC0_2.out (cbz HR3) HC3.out A7.out).mono ?_); rintro e w13 ⟨rfl, hb⟩; refine ⟨_, rfl, ?_⟩; replace BK344 := Aside0.mk (blk_below (g := gb344) blkz hb); replace HB := Aside0.mk (below_step bel hb); clear hb))
   go_loopg [1, 11] k (fun kq v1 v11 w' => ∃ (x1_1 : Int) (x11_1 : Int), v1 = .int .i64 x1_1 ∧ v11 = .int .i64 x11_1 ∧ Aside0 (dropperref05_IsOrder.l0 kq x1_1 l2 l3 x11_1 a0_0 l0_1 l0_2 = some (r1, r2)) ∧ Aside0 (kq ≤ k) ∧ Aside0 (w'.heap[gb344]? = some (.cells #[.int .i64 a0_0, (.slice A0_1 l0_1.length c0_1), (.slice A0_2 l0_2.length c0_2)] 25 (0, 0))) ∧ Aside0 (Below w.heap.size w w'))
   case atStart => exact ⟨(a1), (0), rsz, rsz, H', ⟨Nat.le_refl _⟩, ⟨blkz⟩, ⟨bel⟩⟩
   case round =>
    clear H'
    (try clear c1); (try clear c2); (try clear p2); (try clear c3); (try clear c6); (try clear c6b0); (try clear c6b1); (try clear c8); (try clear hcz10_0); (try clear hcz10_1); (try clear hcz10_2); (try clear hcz12_0); (try clear hcz12_1); (try clear hcz12_2); (try clear hfz10_0); (try clear hfz10_1); (try clear hfz10_2); (try clear hfz12_0); (try clear hfz12_1); (try clear hfz12_2)
    obtain ⟨x1_1, x11_1, rfl, rfl, HA, HK1, BK344, HB⟩ := hrel
    cases gk with
    | zero => exact absurd HA.out (by simp [dropperref05_IsOrder.l0])
    | succ k1 =>
     have H := HA.out
     clear HA
     simp only [dropperref05_IsOrder.l0] at H
     by_cases c14 : x11_1 < (l3.length : Int)
     ·
      rw [if_pos c14] at H
      have c14b0 : decide (x11_1 < (l3.length : Int)) = true := decide_eq_true c14
      clear c14
      by_cases c15 : 0 ≤ x11_1
      ·
       rw [if_pos c15] at H
       have c15b0 : decide (0 ≤ x11_1) = true := decide_eq_true c15
       clear c15
       by_cases c16 : 0 ≤ (rd l3 x11_1)
       ·
        rw [if_pos c16] at H
        have c16b0 := eq_true c16
        have c16b1 : decide (0 ≤ (rd l3 x11_1)) = true := decide_eq_true c16
        clear c16
        obtain ⟨ji17, hji17⟩ : ∃ j_ : Int, (shl .i64 1 (rd l3 x11_1)) = j_ := ⟨_, rfl⟩
        replace H : ((dropperref05_Good.f k1 a0_0 l0_1 l0_2 (Go.bits .xor .i64 x1_1 (ji17)) l2).bind fun t348 => (if t348 = true then (dropperref05_IsOrder.l0 k1 (Go.bits .xor .i64 x1_1 (ji17)) l2 l3 (wrap64 (x11_1 + 1)) a0_0 l0_1 l0_2) else (some (false, 0)))) = some (r1, r2) := by first | (rw [hji17] at H; exact H) | (simp only [hji17] at H ⊢; exact H)
        have hji17_ : (IntKind.i64.wrap (1 * 2 ^ min (rd l3 x11_1).toNat 64)) = ji17 := hji17
        have hji17z : (rd l3 x11_1) ≤ 64 → (IntKind.i64.wrap (1 * 2 ^ (rd l3 x11_1).toNat)) = ji17 := shl_small hji17
        have hji17u : (IntKind.i64.wrap (2 ^ min (rd l3 x11_1).toNat 64)) = ji17 := by have h_ := hji17_; rw [Int.one_mul] at h_; exact h_
        have hji17v : (rd l3 x11_1) ≤ 64 → (IntKind.i64.wrap (2 ^ (rd l3 x11_1).toNat)) = ji17 := fun hle_ => by have h_ := hji17z hle_; rw [Int.one_mul] at h_; exact h_
        have hji17y : (wrap64 (1 * 2 ^ min (rd l3 x11_1).toNat 64)) = ji17 := (i64_w _).symm.trans hji17_
        have hji17x : (rd l3 x11_1) ≤ 64 → (wrap64 (1 * 2 ^ (rd l3 x11_1).toNat)) = ji17 := fun h_ => (i64_w _).symm.trans (hji17z h_)
        replace H := Option.bind_eq_some_iff.mp H
        obtain ⟨t348, A180, H⟩ := H
        try dsimp only at H
        have A18 := Aside0.mk A180
        clear A180
        by_cases c19 : t348 = true
        ·
         subst c19
         rw [if_pos rfl] at H
         have H' := Aside0.mk H
         clear H
         have p347 : 0 ≤ (x11_1 : Int) := of_decide_eq_true asz
         have q347 : x11_1 < (l3.length : Int) := of_decide_eq_true asz
         obtain ⟨ad347, e347, hx347_0⟩ := Kd.at_int HR3.out x11_1 p347 q347
         cases e347
         replace hx347_0 := (HB.out.cell (World.block_lt_of_cell? w _ hx347_0)).trans hx347_0
         replace p347 := eq_true p347
         replace q347 := eq_true q347
         obtain ⟨hcz20_0, hcz20_1, hcz20_2⟩ := bc3 BK344.out
         obtain ⟨hfz20_0, hfz20_1, hfz20_2⟩ := bf3 BK344.out
         go_wp2_with (first | ((with_reducible refine gate_callee (f := 6) rfl ?_); refine goesL_ (some 39) rfl rfl Tryd.func6 (by kernel_rfl) rfl #[.agg #[.int .i64 a0_0, .slice A0_1 l0_1.length c0_1, .slice A0_2 l0_2.length c0_2], .int .i64 (Go.bits .xor .i64 x1_1 (ji17)), .slice A2 l2.length c2] rfl (by (try simp only [List.map_toArray, List.map_cons, List.map_nil]); first | done | (simp only [hji17]; rfl) | rfl | (simp only [List.length_drop, List.length_take]; rfl)) ?_; (with_reducible refine (dropperref05_Good.calls k1 a0_0 _ _ l0_1 _ _ l0_2 (Go.bits .xor .i64 x1_1 (ji17)) _ _ l2 true _ (cbz HR0_1) HC0_1.out (cbz HR0_2) HC0_2.out (cbz HR2) HC2.out A18.out).mono ?_); rintro e w21 ⟨rfl, hb⟩; refine ⟨_, rfl, ?_⟩; replace BK344 := Aside0.mk (blk_below (g := gb344) blkz hb); replace HB := Aside0.mk (below_step bel hb); clear hb))
         go_roundg k1
         case measure => have := HK1.out; omega
         case rel => exact ⟨(Go.bits .xor .i64 x1_1 (ji17)), (wrap64 (x11_1 + 1)), (by first | rfl | (simp; done) | (simp only [← hji17] <;> (first | rfl | simp)) | (simp [*]; done)), rsz, H', ⟨by have := HK1.out; omega⟩, ⟨blkz⟩, ⟨bel⟩⟩
        ·
         replace c19 := Bool.eq_false_iff.mpr c19
         subst c19
         rw [if_neg (show ¬ (false = true) by decide)] at H
         simp only [Option.some.injEq, Prod.mk.injEq] at H
         obtain ⟨rfl, rfl⟩ := H
         have p347 : 0 ≤ (x11_1 : Int) := of_decide_eq_true asz
         have q347 : x11_1 < (l3.length : Int) := of_decide_eq_true asz
         obtain ⟨ad347, e347, hx347_0⟩ := Kd.at_int HR3.out x11_1 p347 q347
         cases e347
         replace hx347_0 := (HB.out.cell (World.block_lt_of_cell? w _ hx347_0)).trans hx347_0
         replace p347 := eq_true p347
         replace q347 := eq_true q347
         obtain ⟨hcz22_0, hcz22_1, hcz22_2⟩ := bc3 BK344.out
         obtain ⟨hfz22_0, hfz22_1, hfz22_2⟩ := bf3 BK344.out
         go_wp2_with (first | ((with_reducible refine gate_callee (f := 6) rfl ?_); refine goesL_ (some 39) rfl rfl Tryd.func6 (by kernel_rfl) rfl #[.agg #[.int .i64 a0_0, .slice A0_1 l0_1.length c0_1, .slice A0_2 l0_2.length c0_2], .int .i64 (Go.bits .xor .i64 x1_1 (ji17)), .slice A2 l2.length c2] rfl (by (try simp only [List.map_toArray, List.map_cons, List.map_nil]); first | done | (simp only [hji17]; rfl) | rfl | (simp only [List.length_drop, List.length_take]; rfl)) ?_; (with_reducible refine (dropperref05_Good.calls k1 a0_0 _ _ l0_1 _ _ l0_2 (Go.bits .xor .i64 x1_1 (ji17)) _ _ l2 false _ (cbz HR0_1) HC0_1.out (cbz HR0_2) HC0_2.out (cbz HR2) HC2.out A18.out).mono ?_); rintro e w23 ⟨rfl, hb⟩; refine ⟨_, rfl, ?_⟩; replace BK344 := Aside0.mk (blk_below (g := gb344) blkz hb); replace HB := Aside0.mk (below_step bel hb); clear hb))
         go_ret2
         exact ⟨by first | rfl | (simp [errW_none, errW_some] <;> rfl) | (simp only [← hji17]; first | rfl | (simp [errW_none, errW_some] <;> rfl)) | (simp [*, errW_none, errW_some] <;> rfl), bel⟩
       ·
        rw [if_neg c16] at H
        exact absurd H (by simp)
      ·
       rw [if_neg c15] at H
       exact absurd H (by simp)
     ·
      rw [if_neg c14] at H
      have c14b0 : decide (x11_1 < (l3.length : Int)) = false := decide_eq_false c14
      clear c14
      simp only [Option.some.injEq, Prod.mk.injEq] at H
      obtain ⟨rfl, rfl⟩ := H
      go_wp2
      go_ret2
      exact ⟨ezz, bel⟩
  ·
   replace c8 := Bool.eq_false_iff.mpr c8
   subst c8
   rw [if_neg (show ¬ (false = true) by decide)] at H
   simp only [Option.some.injEq, Prod.mk.injEq] at H
   obtain ⟨rfl, rfl⟩ := H
   go_enter Tryd.func14, Tryd.ntmps14
   go_wp2_with (first | ((with_reducible refine gate_dst (N := 4) rfl ?_); refine box_event ?hg (N := 4) ?hd (cs := #[.int .i64 a0_0, .slice A0_1 l0_1.length c0_1, .slice A0_2 l0_2.length c0_2]) (t := 25) ?hr ?_; (case hd => rfl); (case hg => rfl); (case hr => first | (go_simp; done) | (go_simp; rfl)); intro gb344 hg w24 hbox hb; have BK344 := Aside0.mk (hbox); have GW344 := bsz (w := w) hg; have GE344 := GW344; replace HB := Aside0.mk (below_step bel hb); clear hb hbox hg; obtain ⟨hcz25_0, hcz25_1, hcz25_2⟩ := bc3 BK344.out) | ((with_reducible refine gate_callee (f := 35) rfl ?_); refine goesL_ (some 15) rfl rfl Tryd.func35 (by kernel_rfl) rfl #[.agg #[.int .i64 a0_0, .slice A0_1 l0_1.length c0_1, .slice A0_2 l0_2.length c0_2], .int .i64 a1, .slice A2 l2.length c2] rfl mapz ?_; (with_reducible refine (dropperref05_begun.calls k a0_0 _ _ l0_1 _ _ l0_2 a1 _ _ l2 t345 _ (cbz HR0_1) HC0_1.out (cbz HR0_2) HC0_2.out (cbz HR2) HC2.out A5.out).mono ?_); rintro e w26 ⟨rfl, hb⟩; refine ⟨_, rfl, ?_⟩; replace BK344 := Aside0.mk (blk_below (g := gb344) blkz hb); replace HB := Aside0.mk (below_step bel hb); clear hb; obtain ⟨hcz27_0, hcz27_1, hcz27_2⟩ := bc3 BK344.out) | ((with_reducible refine gate_callee (f := 36) rfl ?_); refine goesL_ (some 21) rfl rfl Tryd.func36 (by kernel_rfl) rfl #[.agg #[.int .i64 a0_0, .slice A0_1 l0_1.length c0_1, .slice A0_2 l0_2.length c0_2], .slice A3 l3.length c3] rfl mapz ?_; (with_reducible refine (dropperref05_isList.calls k a0_0 _ _ l0_1 _ _ l0_2 _ _ l3 false _ (cbz HR0_1) HC0_1.out (cbz HR0_2) HC0_2.out (cbz HR3) HC3.out A7.out).mono ?_); rintro e w28 ⟨rfl, hb⟩; refine ⟨_, rfl, ?_⟩; replace BK344 := Aside0.mk (blk_below (g := gb344) blkz hb); replace HB := Aside0.mk (below_step bel hb); clear hb))
   go_ret2
   exact ⟨ezz, bel⟩
 ·
  rw [if_neg c6] at H
  have c6b0 : (t345 == 0) = false := beq_eq_false_iff_ne.mpr c6
  have c6b1 : (t345 != 0) = true := bne_iff_ne.mpr c6
  simp only [Option.some.injEq, Prod.mk.injEq] at H
  obtain ⟨rfl, rfl⟩ := H
  go_enter Tryd.func14, Tryd.ntmps14
  go_wp2_with (first | ((with_reducible refine gate_dst (N := 4) rfl ?_); refine box_event ?hg (N := 4) ?hd (cs := #[.int .i64 a0_0, .slice A0_1 l0_1.length c0_1, .slice A0_2 l0_2.length c0_2]) (t := 25) ?hr ?_; (case hd => rfl); (case hg => rfl); (case hr => first | (go_simp; done) | (go_simp; rfl)); intro gb344 hg w29 hbox hb; have BK344 := Aside0.mk (hbox); have GW344 := bsz (w := w) hg; have GE344 := GW344; replace HB := Aside0.mk (below_step bel hb); clear hb hbox hg; obtain ⟨hcz30_0, hcz30_1, hcz30_2⟩ := bc3 BK344.out) | ((with_reducible refine gate_callee (f := 35) rfl ?_); refine goesL_ (some 15) rfl rfl Tryd.func35 (by kernel_rfl) rfl #[.agg #[.int .i64 a0_0, .slice A0_1 l0_1.length c0_1, .slice A0_2 l0_2.length c0_2], .int .i64 a1, .slice A2 l2.length c2] rfl mapz ?_; (with_reducible refine (dropperref05_begun.calls k a0_0 _ _ l0_1 _ _ l0_2 a1 _ _ l2 t345 _ (cbz HR0_1) HC0_1.out (cbz HR0_2) HC0_2.out (cbz HR2) HC2.out A5.out).mono ?_); rintro e w31 ⟨rfl, hb⟩; refine ⟨_, rfl, ?_⟩; replace BK344 := Aside0.mk (blk_below (g := gb344) blkz hb); replace HB := Aside0.mk (below_step bel hb); clear hb))
  go_ret2
  exact ⟨ezz, bel⟩

end Go.Proofs.YtldifdmfefpglaaDoor.XFeed