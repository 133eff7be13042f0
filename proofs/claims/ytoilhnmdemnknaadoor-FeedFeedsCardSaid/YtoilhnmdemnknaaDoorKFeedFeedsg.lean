-- Written by wip/pack.py of this repo: texts of this claim, put together.
import Derived.Test.YtoilhnmdemnknaaDoorKFeedFeedsf
namespace Go.Proofs.YtoilhnmdemnknaaDoor.XFeed
open Go.RowKit Go.Proofs.YtoilhnmdemnknaaDoorW.PrintWords Go.Proofs.YtoilhnmdemnknaaDoorW.PrintLast Go.Proofs.YtoilhnmdemnknaaDoorW.PrintMore
attribute [local go_sem] max2_int min2_int max_two min_two max_three min_three max_four min_four   -- for this text's walks alone
set_option linter.unusedVariables false
set_option linter.unusedSimpArgs false
/-! ### dropperlaw05_FeedFeeds: function 9 -/
mutual
def dropperlaw05_FeedFeeds.j0 : Nat → List (List Int) → Bool → Int → List (S69) → List (S71) → Int → Int → Option (Bool)
 | 0, _, _, _, _, _, _, _ => none
 | k + 1, x2, x18, x734000, x734001, x734002, x735000, x735001 => if x18 = true then ((dropperlaw05_First.f k).bind fun t737 => (some t737)) else ((feed_AreFeeds.f k x734000 x734001 x734002 x735000 x735001 x2).bind fun bt738 => ((dropperref05_AreFeeds.f k x734000 x734001 x734002 x735000 x735001 x2).bind fun bt740 => (if (bt738.1 != bt740.1) = true then (dropperlaw05_FeedFeeds.j1 k true x734000 x734001 x734002 x735000 x735001) else (dropperlaw05_FeedFeeds.j1 k (bt738.2 != bt740.2) x734000 x734001 x734002 x735000 x735001))))
def dropperlaw05_FeedFeeds.j1 : Nat → Bool → Int → List (S69) → List (S71) → Int → Int → Option (Bool)
 | 0, _, _, _, _, _, _ => none
 | k + 1, x47, x734000, x734001, x734002, x735000, x735001 => if x47 = true then (none) else ((feed_Feeds.f k x734000 x734001 x734002 x735000 x735001).bind fun bt742 => ((dropperref05_Why.f k x734000 x734001 x734002 x735000 x735001).bind fun t746 => (if t746 = 0 then ((dropperref05_At.f k x734000 x734001 x734002 x735001).bind fun t748 => (if t748 = true then (if (bt742.1.length : Int) = 0 then (if bt742.2 = 5 then ((dropperlaw05_First.f k).bind fun t749 => (some t749)) else (none)) else (none)) else ((dropperref05_AreFeeds.f k x734000 x734001 x734002 x735000 x735001 bt742.1).bind fun bt750 => (if bt742.2 = 0 then (if bt750.2 = 0 then (if bt750.1 = true then ((dropperref05_Fewest.f k x734000 x734001 x734002 x735000 x735001).bind fun t752 => (if (bt742.1.length : Int) = t752 then ((dropperlaw05_First.f k).bind fun t753 => (some t753)) else (none))) else (none)) else (none)) else (none))))) else (if (bt742.1.length : Int) = 0 then (if bt742.2 = t746 then ((dropperlaw05_First.f k).bind fun t747 => (some t747)) else (none)) else (none)))))
end
def dropperlaw05_FeedFeeds.f (k : Nat) (a0_0 : Int) (l0_1 : List (S69)) (l0_2 : List (S71)) (a1_0 : Int) (a1_1 : Int) (l2 : List (List Int)) : Option (Bool) := (dropperlaw05_Large.f a0_0 l0_1 l0_2 ([] : List Int)).bind fun t735 => (if t735 = true then (dropperlaw05_FeedFeeds.j0 k l2 true a0_0 l0_1 l0_2 a1_0 a1_1) else ((dropperlaw05_many.f k l2).bind fun t736 => (dropperlaw05_FeedFeeds.j0 k l2 t736 a0_0 l0_1 l0_2 a1_0 a1_1)))
theorem dropperlaw05_FeedFeeds.mono_l : ∀ k, (∀ y0 y1 y2 y3 y4 y5 y6, LeO (dropperlaw05_FeedFeeds.j0 k y0 y1 y2 y3 y4 y5 y6) (dropperlaw05_FeedFeeds.j0 (k + 1) y0 y1 y2 y3 y4 y5 y6)) ∧ (∀ y0 y1 y2 y3 y4 y5, LeO (dropperlaw05_FeedFeeds.j1 k y0 y1 y2 y3 y4 y5) (dropperlaw05_FeedFeeds.j1 (k + 1) y0 y1 y2 y3 y4 y5))
 | 0 => ⟨fun _ _ _ _ _ _ _ r h => by simp [dropperlaw05_FeedFeeds.j0] at h, fun _ _ _ _ _ _ r h => by simp [dropperlaw05_FeedFeeds.j1] at h⟩
 | k + 1 => by
  obtain ⟨ih0, ih1⟩ := dropperlaw05_FeedFeeds.mono_l k
  refine ⟨?_, ?_⟩
  ·
   intro y0 y1 y2 y3 y4 y5 y6
   unfold dropperlaw05_FeedFeeds.j0
   repeat' first
   | (with_reducible exact ih0 _ _ _ _ _ _ _)
   | (with_reducible exact ih1 _ _ _ _ _ _)
   | (with_reducible exact dropperlaw05_First.mono _)
   | (with_reducible exact dropperlaw05_many.mono _ _)
   | (with_reducible exact dropperref05_AreFeeds.mono _ _ _ _ _ _ _)
   | (with_reducible exact dropperref05_At.mono _ _ _ _ _)
   | (with_reducible exact dropperref05_Fewest.mono _ _ _ _ _ _)
   | (with_reducible exact dropperref05_Why.mono _ _ _ _ _ _)
   | (with_reducible exact feed_AreFeeds.mono _ _ _ _ _ _ _)
   | (with_reducible exact feed_Feeds.mono _ _ _ _ _ _)
   | (with_reducible exact LeO.refl _)
   | (with_reducible exact LeO.none _)
   | (with_reducible refine LeO.ite ?_ ?_)
   | (with_reducible refine LeO.bind ?_ (fun _ => ?_))
   | exact ih0 _ _ _ _ _ _ _
   | exact ih1 _ _ _ _ _ _
   | exact dropperlaw05_First.mono _
   | exact dropperlaw05_many.mono _ _
   | exact dropperref05_AreFeeds.mono _ _ _ _ _ _ _
   | exact dropperref05_At.mono _ _ _ _ _
   | exact dropperref05_Fewest.mono _ _ _ _ _ _
   | exact dropperref05_Why.mono _ _ _ _ _ _
   | exact feed_AreFeeds.mono _ _ _ _ _ _ _
   | exact feed_Feeds.mono _ _ _ _ _ _
   | exact LeO.none _
   | refine LeO.ite ?_ ?_
   | refine LeO.bind ?_ (fun _ => ?_)
  ·
   intro y0 y1 y2 y3 y4 y5
   unfold dropperlaw05_FeedFeeds.j1
   repeat' first
   | (with_reducible exact ih0 _ _ _ _ _ _ _)
   | (with_reducible exact ih1 _ _ _ _ _ _)
   | (with_reducible exact dropperlaw05_First.mono _)
   | (with_reducible exact dropperlaw05_many.mono _ _)
   | (with_reducible exact dropperref05_AreFeeds.mono _ _ _ _ _ _ _)
   | (with_reducible exact dropperref05_At.mono _ _ _ _ _)
   | (with_reducible exact dropperref05_Fewest.mono _ _ _ _ _ _)
   | (with_reducible exact dropperref05_Why.mono _ _ _ _ _ _)
   | (with_reducible exact feed_AreFeeds.mono _ _ _ _ _ _ _)
   | (with_reducible exact feed_Feeds.mono _ _ _ _ _ _)
   | (with_reducible exact LeO.refl _)
   | (with_reducible exact LeO.none _)
   | (with_reducible refine LeO.ite ?_ ?_)
   | (with_reducible refine LeO.bind ?_ (fun _ => ?_))
   | exact ih0 _ _ _ _ _ _ _
   | exact ih1 _ _ _ _ _ _
   | exact dropperlaw05_First.mono _
   | exact dropperlaw05_many.mono _ _
   | exact dropperref05_AreFeeds.mono _ _ _ _ _ _ _
   | exact dropperref05_At.mono _ _ _ _ _
   | exact dropperref05_Fewest.mono _ _ _ _ _ _
   | exact dropperref05_Why.mono _ _ _ _ _ _
   | exact feed_AreFeeds.mono _ _ _ _ _ _ _
   | exact feed_Feeds.mono _ _ _ _ _ _
   | exact LeO.none _
   | refine LeO.ite ?_ ?_
   | refine LeO.bind ?_ (fun _ => ?_)
theorem dropperlaw05_FeedFeeds.mono : ∀ a0 a1 a2 a3 a4 a5 k, LeO (dropperlaw05_FeedFeeds.f k a0 a1 a2 a3 a4 a5) (dropperlaw05_FeedFeeds.f (k + 1) a0 a1 a2 a3 a4 a5) := by
 intro a0 a1 a2 a3 a4 a5 k
 obtain ⟨ih0, ih1⟩ := dropperlaw05_FeedFeeds.mono_l k
 unfold dropperlaw05_FeedFeeds.f
 repeat' first
   | (with_reducible exact ih0 _ _ _ _ _ _ _)
   | (with_reducible exact ih1 _ _ _ _ _ _)
   | (with_reducible exact dropperlaw05_First.mono _)
   | (with_reducible exact dropperlaw05_many.mono _ _)
   | (with_reducible exact dropperref05_AreFeeds.mono _ _ _ _ _ _ _)
   | (with_reducible exact dropperref05_At.mono _ _ _ _ _)
   | (with_reducible exact dropperref05_Fewest.mono _ _ _ _ _ _)
   | (with_reducible exact dropperref05_Why.mono _ _ _ _ _ _)
   | (with_reducible exact feed_AreFeeds.mono _ _ _ _ _ _ _)
   | (with_reducible exact feed_Feeds.mono _ _ _ _ _ _)
   | (with_reducible exact LeO.refl _)
   | (with_reducible exact LeO.none _)
   | (with_reducible refine LeO.ite ?_ ?_)
   | (with_reducible refine LeO.bind ?_ (fun _ => ?_))
   | exact ih0 _ _ _ _ _ _ _
   | exact ih1 _ _ _ _ _ _
   | exact dropperlaw05_First.mono _
   | exact dropperlaw05_many.mono _ _
   | exact dropperref05_AreFeeds.mono _ _ _ _ _ _ _
   | exact dropperref05_At.mono _ _ _ _ _
   | exact dropperref05_Fewest.mono _ _ _ _ _ _
   | exact dropperref05_Why.mono _ _ _ _ _ _
   | exact feed_AreFeeds.mono _ _ _ _ _ _ _
   | exact feed_Feeds.mono _ _ _ _ _ _
   | exact LeO.none _
   | refine LeO.ite ?_ ?_
   | refine LeO.bind ?_ (fun _ => ?_)
set_option maxHeartbeats 8000000 in
set_option maxRecDepth 100000 in
theorem dropperlaw05_FeedFeeds.calls (k : Nat) (a0_0 : Int) (A0_1 : Option Addr) (c0_1 : Nat) (l0_1 : List (S69)) (A0_2 : Option Addr) (c0_2 : Nat) (l0_2 : List (S71)) (a1_0 : Int) (a1_1 : Int) (A2 : Option Addr) (c2 : Nat) (l2 : List (List Int)) (r : Bool) (w : World) (hr0_1 : Kd.C k69 w A0_1 l0_1.length l0_1) (hc0_1 : l0_1.length ≤ c0_1) (hr0_2 : Kd.C k71 w A0_2 l0_2.length l0_2) (hc0_2 : l0_2.length ≤ c0_2) (hr2 : Kd.C (Kd.slice 3 (Kd.int .i64)) w A2 l2.length l2) (hc2 : l2.length ≤ c2) (hT : Tab.Tabs w) (h : dropperlaw05_FeedFeeds.f k a0_0 l0_1 l0_2 a1_0 a1_1 l2 = some r) :
  Calls Tryd.prog 9 #[.agg #[.int .i64 a0_0, .slice A0_1 l0_1.length c0_1, .slice A0_2 l0_2.length c0_2], .agg #[.int .i64 a1_0, .int .i64 a1_1], .slice A2 l2.length c2] w fun e w' => e = .returned (.bool r) ∧ Below w.heap.size w w' := by
 have HT := Aside0.mk hT
 clear hT
 have hu25 := Tryd.underlying25
 have hu43 := Tryd.underlying43
 have HR0_1 := Aside0.mk hr0_1
 have HC0_1 := Aside0.mk hc0_1
 clear hr0_1 hc0_1
 have HR0_2 := Aside0.mk hr0_2
 have HC0_2 := Aside0.mk hc0_2
 clear hr0_2 hc0_2
 have HR2 := Aside0.mk hr2
 have HC2 := Aside0.mk hc2
 clear hr2 hc2
 have HB := Aside0.mk (Below.refl w.heap.size w)
 have H : ((dropperlaw05_Large.f a0_0 l0_1 l0_2 ([] : List Int)).bind fun t735 => (if t735 = true then (dropperlaw05_FeedFeeds.j0 k l2 true a0_0 l0_1 l0_2 a1_0 a1_1) else ((dropperlaw05_many.f k l2).bind fun t736 => (dropperlaw05_FeedFeeds.j0 k l2 t736 a0_0 l0_1 l0_2 a1_0 a1_1)))) = some r := h
 clear h
 have HC4 := Aside0.mk H
 clear H
 go_enter Tryd.func9, Tryd.ntmps9
 go_upto_region 1 with (first | ((with_reducible refine gate_dst (N := 3) rfl ?_); (try (refine gate_guard (by rfl) ?_; dsimp only)); refine box_event ?hg (N := 3) ?hd (cs := #[.int .i64 a0_0, .slice A0_1 l0_1.length c0_1, .slice A0_2 l0_2.length c0_2]) (t := 25) ?hr ?_; (case hd => rfl); (case hg => rfl); (case hr => first | (go_simp; done) | (go_simp; rfl)); intro gb733 hg w5 hbox hb; have BK733 := Aside0.mk (hbox); have GW733 := bsz (w := w) hg; have GE733 := GW733; replace HB := Aside0.mk (below_step bel hb); clear hb hbox hg) | ((with_reducible refine gate_dst (N := 4) rfl ?_); (try (refine gate_guard (by rfl) ?_; dsimp only)); refine box_event ?hg (N := 4) ?hd (cs := #[.int .i64 a1_0, .int .i64 a1_1]) (t := 43) ?hr ?_; (case hd => rfl); (case hg => rfl); (case hr => first | (go_simp; done) | (go_simp; rfl)); intro gb734 hg w6 hbox hb; have BK734 := Aside0.mk (hbox); have GW734 := bsz (w := w) hg; have GE734 := GW734; have NB733_734 := neL (g := gb733) hg; have NB734_733 := neR (g := gb733) hg; replace BK733 := Aside0.mk (blk_below (g := gb733) blkz hb); replace HB := Aside0.mk (below_step bel hb); clear hb hbox hg))
 (try simp only [Act.put, List.setIfInBounds_toArray, List.set_cons_zero, List.set_cons_succ])
 go_cut [18] (fun v18 wc => ∃ (kq : Nat) (x18_3 : Bool), v18 = .bool x18_3 ∧ Aside0 (dropperlaw05_FeedFeeds.j0 kq l2 x18_3 a0_0 l0_1 l0_2 a1_0 a1_1 = some r) ∧ Aside0 (kq ≤ k) ∧ Aside0 (wc.heap[gb733]? = some (.cells #[.int .i64 a0_0, (.slice A0_1 l0_1.length c0_1), (.slice A0_2 l0_2.length c0_2)] 25 (0, 0))) ∧ Aside0 (wc.heap[gb734]? = some (.cells #[.int .i64 a1_0, .int .i64 a1_1] 43 (0, 0))) ∧ Aside0 (Below w.heap.size w wc))
 case first =>
  have H := HC4.out
  clear HC4
  replace H := Option.bind_eq_some_iff.mp H
  obtain ⟨t735, A70, H⟩ := H
  replace H : (if t735 = true then (dropperlaw05_FeedFeeds.j0 k l2 true a0_0 l0_1 l0_2 a1_0 a1_1) else ((dropperlaw05_many.f k l2).bind fun t736 => (dropperlaw05_FeedFeeds.j0 k l2 t736 a0_0 l0_1 l0_2 a1_0 a1_1))) = some r := H
  have A7 := Aside0.mk A70
  clear A70
  by_cases c8 : t735 = true
  ·
   subst c8
   have H1 : (dropperlaw05_FeedFeeds.j0 k l2 true a0_0 l0_1 l0_2 a1_0 a1_1) = some r := by rw [if_pos rfl] at H; exact H
   clear H
   have H := H1
   clear H1
   have H' := Aside0.mk H
   clear H
   have hnb9 := NB733_734.out
   have hnc9 := NB734_733.out
   have hcz10_0 := blkc BK733.out 0 (.int .i64 a0_0) rfl
   have hcz10_1 := blkc BK733.out 1 (.slice A0_1 l0_1.length c0_1) rfl
   have hcz10_2 := blkc BK733.out 2 (.slice A0_2 l0_2.length c0_2) rfl
   have hfz10_0 := blk_frozen BK733.out 0
   have hfz10_1 := blk_frozen BK733.out 1
   have hfz10_2 := blk_frozen BK733.out 2
   go_wp2_with (first | ((with_reducible refine gate_callee (f := 11) rfl ?_); refine goesL_ (some 14) rfl rfl Tryd.func11 (by kernel_rfl) rfl #[.agg #[.int .i64 a0_0, .slice A0_1 l0_1.length c0_1, .slice A0_2 l0_2.length c0_2], .slice none 0 0] rfl mapz ?_; (refine (dropperlaw05_Large.calls a0_0 _ _ l0_1 _ _ l0_2 _ _ ([] : List Int) true _ ?side1 ?side2 ?side3 ?side4 ?side5 ?side6 A7.out).mono ?_); (case side1 => exact cbz HR0_1); (case side2 => exact HC0_1.out); (case side3 => exact cbz HR0_2); (case side4 => exact HC0_2.out); (case side5 => exact Kd.C_nil _ _); (case side6 => exact Nat.le_refl _); rintro e w11 ⟨rfl, hb⟩; refine ⟨_, rfl, ?_⟩; replace BK733 := Aside0.mk (blk_below (g := gb733) blkz hb); replace BK734 := Aside0.mk (blk_below (g := gb734) blkz hb); replace HB := Aside0.mk (below_step bel hb); (try clear hb); (try clear hb2); (try clear hk); (try clear hi)))
   go_meet
   case rel => exact ⟨_, (true), rsz, H', ⟨by first | omega | exact Nat.le_refl _⟩, ⟨blkz⟩, ⟨blkz⟩, ⟨bel⟩⟩
  ·
   replace c8 := Bool.eq_false_iff.mpr c8
   subst c8
   have H1 : ((dropperlaw05_many.f k l2).bind fun t736 => (dropperlaw05_FeedFeeds.j0 k l2 t736 a0_0 l0_1 l0_2 a1_0 a1_1)) = some r := by rw [if_neg (show ¬ (false = true) by decide)] at H; exact H
   clear H
   have H := H1
   clear H1
   replace H := Option.bind_eq_some_iff.mp H
   obtain ⟨t736, A120, H⟩ := H
   replace H : (dropperlaw05_FeedFeeds.j0 k l2 t736 a0_0 l0_1 l0_2 a1_0 a1_1) = some r := H
   have A12 := Aside0.mk A120
   clear A120
   have H' := Aside0.mk H
   clear H
   have hnb13 := NB733_734.out
   have hnc13 := NB734_733.out
   have hcz14_0 := blkc BK733.out 0 (.int .i64 a0_0) rfl
   have hcz14_1 := blkc BK733.out 1 (.slice A0_1 l0_1.length c0_1) rfl
   have hcz14_2 := blkc BK733.out 2 (.slice A0_2 l0_2.length c0_2) rfl
   have hfz14_0 := blk_frozen BK733.out 0
   have hfz14_1 := blk_frozen BK733.out 1
   have hfz14_2 := blk_frozen BK733.out 2
   go_wp2_with (first | ((with_reducible refine gate_callee (f := 11) rfl ?_); refine goesL_ (some 14) rfl rfl Tryd.func11 (by kernel_rfl) rfl #[.agg #[.int .i64 a0_0, .slice A0_1 l0_1.length c0_1, .slice A0_2 l0_2.length c0_2], .slice none 0 0] rfl mapz ?_; (refine (dropperlaw05_Large.calls a0_0 _ _ l0_1 _ _ l0_2 _ _ ([] : List Int) false _ ?side1 ?side2 ?side3 ?side4 ?side5 ?side6 A7.out).mono ?_); (case side1 => exact cbz HR0_1); (case side2 => exact HC0_1.out); (case side3 => exact cbz HR0_2); (case side4 => exact HC0_2.out); (case side5 => exact Kd.C_nil _ _); (case side6 => exact Nat.le_refl _); rintro e w15 ⟨rfl, hb⟩; refine ⟨_, rfl, ?_⟩; replace BK733 := Aside0.mk (blk_below (g := gb733) blkz hb); replace BK734 := Aside0.mk (blk_below (g := gb734) blkz hb); replace HB := Aside0.mk (below_step bel hb); (try clear hb); (try clear hb2); (try clear hk); (try clear hi)) | (go_at_call 38; (with_reducible refine (dropperlaw05_many.calls k _ _ l2 t736 _ ?side1 ?side2 A12.out).mono ?_); (case side1 => exact cbz HR2); (case side2 => exact HC2.out); rintro e w' ⟨rfl, ⟨nd, rfl⟩⟩))
   go_meet
   case rel => exact ⟨_, (t736), rsz, H', ⟨by first | omega | exact Nat.le_refl _⟩, ⟨blkz⟩, ⟨blkz⟩, ⟨bel⟩⟩
 case rest =>
  clear HC4
  try clear c1
  try clear c2
  try clear p2
  try clear c8
  try clear c9
  try clear c11
  try clear c13
  try clear hcz10_0
  try clear hcz10_1
  try clear hcz10_2
  try clear hcz14_0
  try clear hcz14_1
  try clear hcz14_2
  try clear hfz10_0
  try clear hfz10_1
  try clear hfz10_2
  try clear hfz14_0
  try clear hfz14_1
  try clear hfz14_2
  obtain ⟨kq, x18_3, rfl, HA, HJ3, BK733, BK734, HB⟩ := hcut
  cases kq with
  | zero => exact absurd HA.out (by simp [dropperlaw05_FeedFeeds.j0])
  | succ kj3 =>
   have H := HA.out
   clear HA
   simp only [dropperlaw05_FeedFeeds.j0] at H
   by_cases c16 : x18_3 = true
   ·
    subst c16
    have H1 : ((dropperlaw05_First.f kj3).bind fun t737 => (some t737)) = some r := by rw [if_pos rfl] at H; exact H
    clear H
    have H := H1
    clear H1
    replace H := Option.bind_eq_some_iff.mp H
    obtain ⟨t737, A170, H⟩ := H
    replace H : (some t737) = some r := H
    have A17 := Aside0.mk A170
    clear A170
    obtain rfl := Option.some.inj H
    go_wp2_with (first | ((with_reducible refine gate_callee (f := 12) rfl ?_); refine goesL_ (some 19) rfl rfl Tryd.func12 (by kernel_rfl) rfl #[] rfl mapz ?_; (with_reducible refine (dropperlaw05_First.calls kj3  t737 _ ?sideT A17.out).mono ?_); (case sideT => first | exact HT.out | exact Tab.Tabs.below HT.out bel | (with_reducible repeat (first | exact HT.out | apply Tab.Tabs.alloc | apply Tab.Tabs.drewN | apply Tab.Tabs.drew))); rintro e w18 ⟨rfl, hb⟩; refine ⟨_, rfl, ?_⟩; replace BK733 := Aside0.mk (blk_below (g := gb733) blkz hb); replace BK734 := Aside0.mk (blk_below (g := gb734) blkz hb); replace HB := Aside0.mk (below_step bel hb); (try clear hb); (try clear hb2); (try clear hk); (try clear hi)))
    go_ret
    exact ⟨ezz, bel⟩
   ·
    replace c16 := Bool.eq_false_iff.mpr c16
    subst c16
    have H1 : ((feed_AreFeeds.f kj3 a0_0 l0_1 l0_2 a1_0 a1_1 l2).bind fun bt738 => ((dropperref05_AreFeeds.f kj3 a0_0 l0_1 l0_2 a1_0 a1_1 l2).bind fun bt740 => (if (bt738.1 != bt740.1) = true then (dropperlaw05_FeedFeeds.j1 kj3 true a0_0 l0_1 l0_2 a1_0 a1_1) else (dropperlaw05_FeedFeeds.j1 kj3 (bt738.2 != bt740.2) a0_0 l0_1 l0_2 a1_0 a1_1)))) = some r := by rw [if_neg (show ¬ (false = true) by decide)] at H; exact H
    clear H
    have H := H1
    clear H1
    replace H := Option.bind_eq_some_iff.mp H
    obtain ⟨⟨t738, t739⟩, A190, H⟩ := H
    replace H : ((dropperref05_AreFeeds.f kj3 a0_0 l0_1 l0_2 a1_0 a1_1 l2).bind fun bt740 => (if (t738 != bt740.1) = true then (dropperlaw05_FeedFeeds.j1 kj3 true a0_0 l0_1 l0_2 a1_0 a1_1) else (dropperlaw05_FeedFeeds.j1 kj3 (t739 != bt740.2) a0_0 l0_1 l0_2 a1_0 a1_1))) = some r := H
    have A19 := Aside0.mk A190
    clear A190
    replace H := Option.bind_eq_some_iff.mp H
    obtain ⟨⟨t740, t741⟩, A200, H⟩ := H
    replace H : (if (t738 != t740) = true then (dropperlaw05_FeedFeeds.j1 kj3 true a0_0 l0_1 l0_2 a1_0 a1_1) else (dropperlaw05_FeedFeeds.j1 kj3 (t739 != t741) a0_0 l0_1 l0_2 a1_0 a1_1)) = some r := H
    have A20 := Aside0.mk A200
    clear A200
    have HC21 := Aside0.mk H
    clear H
    have hnb22 := NB733_734.out
    have hnc22 := NB734_733.out
    have hcz23_0 := blkc BK733.out 0 (.int .i64 a0_0) rfl
    have hcz23_1 := blkc BK733.out 1 (.slice A0_1 l0_1.length c0_1) rfl
    have hcz23_2 := blkc BK733.out 2 (.slice A0_2 l0_2.length c0_2) rfl
    have hfz23_0 := blk_frozen BK733.out 0
    have hfz23_1 := blk_frozen BK733.out 1
    have hfz23_2 := blk_frozen BK733.out 2
    have hcz24_0 := blkc BK734.out 0 (.int .i64 a1_0) rfl
    have hcz24_1 := blkc BK734.out 1 (.int .i64 a1_1) rfl
    have hfz24_0 := blk_frozen BK734.out 0
    have hfz24_1 := blk_frozen BK734.out 1
    go_upto_region 5 with (first | ((with_reducible refine gate_callee (f := 39) rfl ?_); refine goesL_ (some 27) rfl rfl Tryd.func39 (by kernel_rfl) rfl #[.agg #[.int .i64 a0_0, .slice A0_1 l0_1.length c0_1, .slice A0_2 l0_2.length c0_2], .int .i64 a1_0, .int .i64 a1_1, .slice A2 l2.length c2] rfl mapz ?_; (with_reducible refine (feed_AreFeeds.calls kj3 a0_0 _ _ l0_1 _ _ l0_2 a1_0 a1_1 _ _ l2 t738 t739 _ ?side1 ?side2 ?side3 ?side4 ?side5 ?side6 A19.out).mono ?_); (case side1 => exact cbz HR0_1); (case side2 => exact HC0_1.out); (case side3 => exact cbz HR0_2); (case side4 => exact HC0_2.out); (case side5 => exact cbz HR2); (case side6 => exact HC2.out); rintro e w25 ⟨rfl, hb⟩; refine ⟨_, rfl, ?_⟩; replace BK733 := Aside0.mk (blk_below (g := gb733) blkz hb); replace BK734 := Aside0.mk (blk_below (g := gb734) blkz hb); replace HB := Aside0.mk (below_step bel hb); (try clear hb); (try clear hb2); (try clear hk); (try clear hi); have hcz26_0 := blkc BK733.out 0 (.int .i64 a0_0) rfl; have hcz26_1 := blkc BK733.out 1 (.slice A0_1 l0_1.length c0_1) rfl; have hcz26_2 := blkc BK733.out 2 (.slice A0_2 l0_2.length c0_2) rfl; have hcz27_0 := blkc BK734.out 0 (.int .i64 a1_0) rfl; have hcz27_1 := blkc BK734.out 1 (.int .i64 a1_1) rfl) | ((with_reducible refine gate_callee (f := 40) rfl ?_); refine goesL_ (some 37) rfl rfl Tryd.func40 (by kernel_rfl) rfl #[.agg #[.int .i64 a0_0, .slice A0_1 l0_1.length c0_1, .slice A0_2 l0_2.length c0_2], .int .i64 a1_0, .int .i64 a1_1, .slice A2 l2.length c2] rfl mapz ?_; (with_reducible refine (dropperref05_AreFeeds.calls kj3 a0_0 _ _ l0_1 _ _ l0_2 a1_0 a1_1 _ _ l2 t740 t741 _ ?side1 ?side2 ?side3 ?side4 ?side5 ?side6 A20.out).mono ?_); (case side1 => exact cbz HR0_1); (case side2 => exact HC0_1.out); (case side3 => exact cbz HR0_2); (case side4 => exact HC0_2.out); (case side5 => exact cbz HR2); (case side6 => exact HC2.out); rintro e w28 ⟨rfl, hb⟩; refine ⟨_, rfl, ?_⟩; replace BK733 := Aside0.mk (blk_below (g := gb733) blkz hb); replace BK734 := Aside0.mk (blk_below (g := gb734) blkz hb); replace HB := Aside0.mk (below_step bel hb); (try clear hb); (try clear hb2); (try clear hk); (try clear hi)))
    (try simp only [Act.put, List.setIfInBounds_toArray, List.set_cons_zero, List.set_cons_succ])
    go_cut [47] (fun v47 wc => ∃ (kq : Nat) (x47_20 : Bool), v47 = .bool x47_20 ∧ Aside0 (dropperlaw05_FeedFeeds.j1 kq x47_20 a0_0 l0_1 l0_2 a1_0 a1_1 = some r) ∧ Aside0 (kq ≤ kj3) ∧ Aside0 (wc.heap[gb733]? = some (.cells #[.int .i64 a0_0, (.slice A0_1 l0_1.length c0_1), (.slice A0_2 l0_2.length c0_2)] 25 (0, 0))) ∧ Aside0 (wc.heap[gb734]? = some (.cells #[.int .i64 a1_0, .int .i64 a1_1] 43 (0, 0))) ∧ Aside0 (Below w.heap.size w wc))
    case first =>
     have H := HC21.out
     clear HC21
     by_cases c29 : (t738 != t740) = true
     ·
      rw [if_pos c29] at H
      have c29b0 : (t738 != t740) = true := c29
      (try (have c29b1 : decide (t738 = t740) = false := by simpa using c29))
      (try (have c29b2 : (t738 == t740) = false := by simpa using c29))
      (try (have c29b3 : ¬ (t738 = t740) := by simpa using c29))
      clear c29
      (first | rw [c29b0] | (simp only [i64_w, i32_w]; rw [c29b0]) | skip)
      have H' := Aside0.mk H
      clear H
      go_wp2
      go_meet
      case rel => exact ⟨_, (true), rsz, H', ⟨by have := HJ3.out; first | omega | exact Nat.le_refl _⟩, ⟨blkz⟩, ⟨blkz⟩, ⟨bel⟩⟩
     ·
      rw [if_neg c29] at H
      have c29b0 : (t738 != t740) = false := by simpa using c29
      (try (have c29b1 : decide (t738 = t740) = true := by simpa using c29))
      (try (have c29b2 : (t738 == t740) = true := by simpa using c29))
      clear c29
      (first | rw [c29b0] | (simp only [i64_w, i32_w]; rw [c29b0]) | skip)
      have H' := Aside0.mk H
      clear H
      go_wp2
      go_meet
      case rel => exact ⟨_, ((t739 != t741)), rsz, H', ⟨by have := HJ3.out; first | omega | exact Nat.le_refl _⟩, ⟨blkz⟩, ⟨blkz⟩, ⟨bel⟩⟩
    case rest =>
     clear HC21
     try clear c1
     try clear c2
     try clear p2
     try clear c3
     try clear c4
     try clear c8
     try clear c9
     try clear c11
     try clear c12
     try clear c13
     try clear c16
     try clear c22
     try clear c29
     try clear c29b0
     try clear c29b1
     try clear c29b2
     try clear hcz10_0
     try clear hcz10_1
     try clear hcz10_2
     try clear hcz14_0
     try clear hcz14_1
     try clear hcz14_2
     try clear hcz23_0
     try clear hcz23_1
     try clear hcz23_2
     try clear hcz24_0
     try clear hcz24_1
     try clear hcz26_0
     try clear hcz26_1
     try clear hcz26_2
     try clear hcz27_0
     try clear hcz27_1
     try clear hfz10_0
     try clear hfz10_1
     try clear hfz10_2
     try clear hfz14_0
     try clear hfz14_1
     try clear hfz14_2
     try clear hfz23_0
     try clear hfz23_1
     try clear hfz23_2
     try clear hfz24_0
     try clear hfz24_1
     try clear hfz26_0
     try clear hfz26_1
     try clear hfz26_2
     try clear hfz27_0
     try clear hfz27_1
     try clear p2
     obtain ⟨kq, x47_20, rfl, HA, HJ20, BK733, BK734, HB⟩ := hcut
     cases kq with
     | zero => exact absurd HA.out (by simp [dropperlaw05_FeedFeeds.j1])
     | succ kj20 =>
      have H := HA.out
      clear HA
      simp only [dropperlaw05_FeedFeeds.j1] at H
      by_cases c30 : x47_20 = true
      ·
       subst c30
       have H1 : (none) = some r := by rw [if_pos rfl] at H; exact H
       clear H
       have H := H1
       clear H1
       exact absurd H (by simp)
      ·
       replace c30 := Bool.eq_false_iff.mpr c30
       subst c30
       have H1 : ((feed_Feeds.f kj20 a0_0 l0_1 l0_2 a1_0 a1_1).bind fun bt742 => ((dropperref05_Why.f kj20 a0_0 l0_1 l0_2 a1_0 a1_1).bind fun t746 => (if t746 = 0 then ((dropperref05_At.f kj20 a0_0 l0_1 l0_2 a1_1).bind fun t748 => (if t748 = true then (if (bt742.1.length : Int) = 0 then (if bt742.2 = 5 then ((dropperlaw05_First.f kj20).bind fun t749 => (some t749)) else (none)) else (none)) else ((dropperref05_AreFeeds.f kj20 a0_0 l0_1 l0_2 a1_0 a1_1 bt742.1).bind fun bt750 => (if bt742.2 = 0 then (if bt750.2 = 0 then (if bt750.1 = true then ((dropperref05_Fewest.f kj20 a0_0 l0_1 l0_2 a1_0 a1_1).bind fun t752 => (if (bt742.1.length : Int) = t752 then ((dropperlaw05_First.f kj20).bind fun t753 => (some t753)) else (none))) else (none)) else (none)) else (none))))) else (if (bt742.1.length : Int) = 0 then (if bt742.2 = t746 then ((dropperlaw05_First.f kj20).bind fun t747 => (some t747)) else (none)) else (none))))) = some r := by rw [if_neg (show ¬ (false = true) by decide)] at H; exact H
       clear H
       have H := H1
       clear H1
       replace H := Option.bind_eq_some_iff.mp H
       obtain ⟨⟨t742, t745⟩, A310, H⟩ := H
       replace H : ((dropperref05_Why.f kj20 a0_0 l0_1 l0_2 a1_0 a1_1).bind fun t746 => (if t746 = 0 then ((dropperref05_At.f kj20 a0_0 l0_1 l0_2 a1_1).bind fun t748 => (if t748 = true then (if (t742.length : Int) = 0 then (if t745 = 5 then ((dropperlaw05_First.f kj20).bind fun t749 => (some t749)) else (none)) else (none)) else ((dropperref05_AreFeeds.f kj20 a0_0 l0_1 l0_2 a1_0 a1_1 t742).bind fun bt750 => (if t745 = 0 then (if bt750.2 = 0 then (if bt750.1 = true then ((dropperref05_Fewest.f kj20 a0_0 l0_1 l0_2 a1_0 a1_1).bind fun t752 => (if (t742.length : Int) = t752 then ((dropperlaw05_First.f kj20).bind fun t753 => (some t753)) else (none))) else (none)) else (none)) else (none))))) else (if (t742.length : Int) = 0 then (if t745 = t746 then ((dropperlaw05_First.f kj20).bind fun t747 => (some t747)) else (none)) else (none)))) = some r := H
       have A31 := Aside0.mk A310
       clear A310
       replace H := Option.bind_eq_some_iff.mp H
       obtain ⟨t746, A320, H⟩ := H
       replace H : (if t746 = 0 then ((dropperref05_At.f kj20 a0_0 l0_1 l0_2 a1_1).bind fun t748 => (if t748 = true then (if (t742.length : Int) = 0 then (if t745 = 5 then ((dropperlaw05_First.f kj20).bind fun t749 => (some t749)) else (none)) else (none)) else ((dropperref05_AreFeeds.f kj20 a0_0 l0_1 l0_2 a1_0 a1_1 t742).bind fun bt750 => (if t745 = 0 then (if bt750.2 = 0 then (if bt750.1 = true then ((dropperref05_Fewest.f kj20 a0_0 l0_1 l0_2 a1_0 a1_1).bind fun t752 => (if (t742.length : Int) = t752 then ((dropperlaw05_First.f kj20).bind fun t753 => (some t753)) else (none))) else (none)) else (none)) else (none))))) else (if (t742.length : Int) = 0 then (if t745 = t746 then ((dropperlaw05_First.f kj20).bind fun t747 => (some t747)) else (none)) else (none))) = some r := H
       have A32 := Aside0.mk A320
       clear A320
       by_cases c33 : t746 = 0
       ·
        rw [if_pos c33] at H
        have c33b0 : (t746 == 0) = true := beq_iff_eq.mpr c33
        have c33b1 : (t746 != 0) = false := bne_eq_false_iff_eq.mpr c33
        clear c33
        replace H := Option.bind_eq_some_iff.mp H
        obtain ⟨t748, A340, H⟩ := H
        replace H : (if t748 = true then (if (t742.length : Int) = 0 then (if t745 = 5 then ((dropperlaw05_First.f kj20).bind fun t749 => (some t749)) else (none)) else (none)) else ((dropperref05_AreFeeds.f kj20 a0_0 l0_1 l0_2 a1_0 a1_1 t742).bind fun bt750 => (if t745 = 0 then (if bt750.2 = 0 then (if bt750.1 = true then ((dropperref05_Fewest.f kj20 a0_0 l0_1 l0_2 a1_0 a1_1).bind fun t752 => (if (t742.length : Int) = t752 then ((dropperlaw05_First.f kj20).bind fun t753 => (some t753)) else (none))) else (none)) else (none)) else (none)))) = some r := H
        have A34 := Aside0.mk A340
        clear A340
        by_cases c35 : t748 = true
        ·
         subst c35
         have H1 : (if (t742.length : Int) = 0 then (if t745 = 5 then ((dropperlaw05_First.f kj20).bind fun t749 => (some t749)) else (none)) else (none)) = some r := by rw [if_pos rfl] at H; exact H
         clear H
         have H := H1
         clear H1
         by_cases c36 : (t742.length : Int) = 0
         ·
          rw [if_pos c36] at H
          have c36b0 : ((t742.length : Int) == 0) = true := beq_iff_eq.mpr c36
          have c36b1 : ((t742.length : Int) != 0) = false := bne_eq_false_iff_eq.mpr c36
          clear c36
          by_cases c37 : t745 = 5
          ·
           rw [if_pos c37] at H
           have c37b0 : (t745 == 5) = true := beq_iff_eq.mpr c37
           have c37b1 : (t745 != 5) = false := bne_eq_false_iff_eq.mpr c37
           clear c37
           replace H := Option.bind_eq_some_iff.mp H
           obtain ⟨t749, A380, H⟩ := H
           replace H : (some t749) = some r := H
           have A38 := Aside0.mk A380
           clear A380
           obtain rfl := Option.some.inj H
           have hnb39 := NB733_734.out
           have hnc39 := NB734_733.out
           have hcz40_0 := blkc BK733.out 0 (.int .i64 a0_0) rfl
           have hcz40_1 := blkc BK733.out 1 (.slice A0_1 l0_1.length c0_1) rfl
           have hcz40_2 := blkc BK733.out 2 (.slice A0_2 l0_2.length c0_2) rfl
           have hfz40_0 := blk_frozen BK733.out 0
           have hfz40_1 := blk_frozen BK733.out 1
           have hfz40_2 := blk_frozen BK733.out 2
           have hcz41_0 := blkc BK734.out 0 (.int .i64 a1_0) rfl
           have hcz41_1 := blkc BK734.out 1 (.int .i64 a1_1) rfl
           have hfz41_0 := blk_frozen BK734.out 0
           have hfz41_1 := blk_frozen BK734.out 1
           go_wp2_with (first | ((with_reducible refine gate_callee (f := 41) rfl ?_); refine goesL_ (some 54) rfl rfl Tryd.func41 (by kernel_rfl) rfl #[.agg #[.int .i64 a0_0, .slice A0_1 l0_1.length c0_1, .slice A0_2 l0_2.length c0_2], .int .i64 a1_0, .int .i64 a1_1] rfl mapz ?_; (with_reducible refine (feed_Feeds.calls kj20 a0_0 _ _ l0_1 _ _ l0_2 a1_0 a1_1 t742 t745 _ ?side1 ?side2 ?side3 ?side4 A31.out).mono ?_); (case side1 => exact cbz HR0_1); (case side2 => exact HC0_1.out); (case side3 => exact cbz HR0_2); (case side4 => exact HC0_2.out); rintro e w42 ⟨v743, rfl, ho0, hb⟩; refine ⟨_, rfl, ?_⟩; have HO744 := Aside0.mk (Kd.N_lower (Kd.N_mono (ok' := fun k_ => k_ ≠ gb733 ∧ k_ ≠ gb734) ho0 (fun k_ hk_ => ⟨(Kd.freshB (g := gb733) (o := .cells #[.int .i64 a0_0, .slice A0_1 l0_1.length c0_1, .slice A0_2 l0_2.length c0_2] 25 (0, 0)) blkz k_ hk_), (Kd.freshB (g := gb734) (o := .cells #[.int .i64 a1_0, .int .i64 a1_1] 43 (0, 0)) blkz k_ hk_)⟩)) (below_size bel)); replace BK733 := Aside0.mk (blk_below (g := gb733) blkz hb); replace BK734 := Aside0.mk (blk_below (g := gb734) blkz hb); replace HB := Aside0.mk (below_step bel hb); (try clear hb); (try clear hb2); (try clear hk); (try clear hi); (try clear ho0); have hcz43_0 := blkc BK733.out 0 (.int .i64 a0_0) rfl; have hcz43_1 := blkc BK733.out 1 (.slice A0_1 l0_1.length c0_1) rfl; have hcz43_2 := blkc BK733.out 2 (.slice A0_2 l0_2.length c0_2) rfl; have hcz44_0 := blkc BK734.out 0 (.int .i64 a1_0) rfl; have hcz44_1 := blkc BK734.out 1 (.int .i64 a1_1) rfl) | ((with_reducible refine gate_callee (f := 25) rfl ?_); refine goesL_ (some 62) rfl rfl Tryd.func25 (by kernel_rfl) rfl #[.agg #[.int .i64 a0_0, .slice A0_1 l0_1.length c0_1, .slice A0_2 l0_2.length c0_2], .int .i64 a1_0, .int .i64 a1_1] rfl mapz ?_; (with_reducible refine (dropperref05_Why.calls kj20 a0_0 _ _ l0_1 _ _ l0_2 a1_0 a1_1 t746 _ ?side1 ?side2 ?side3 ?side4 A32.out).mono ?_); (case side1 => exact cbz HR0_1); (case side2 => exact HC0_1.out); (case side3 => exact cbz HR0_2); (case side4 => exact HC0_2.out); rintro e w45 ⟨rfl, hb⟩; refine ⟨_, rfl, ?_⟩; replace HO744 := Aside0.mk (Kd.N_below (by (with_reducible repeat (first | apply Kd.N_alloc | apply Kd.N_drewN | apply Kd.N_drew)); exact HO744.out) hb); replace BK733 := Aside0.mk (blk_below (g := gb733) blkz hb); replace BK734 := Aside0.mk (blk_below (g := gb734) blkz hb); replace HB := Aside0.mk (below_step bel hb); (try clear hb); (try clear hb2); (try clear hk); (try clear hi); have hcz46_0 := blkc BK733.out 0 (.int .i64 a0_0) rfl; have hcz46_1 := blkc BK733.out 1 (.slice A0_1 l0_1.length c0_1) rfl; have hcz46_2 := blkc BK733.out 2 (.slice A0_2 l0_2.length c0_2) rfl; have hcz47_0 := blkc BK734.out 0 (.int .i64 a1_0) rfl; have hcz47_1 := blkc BK734.out 1 (.int .i64 a1_1) rfl) | ((with_reducible refine gate_callee (f := 26) rfl ?_); refine goesL_ (some 79) rfl rfl Tryd.func26 (by kernel_rfl) rfl #[.agg #[.int .i64 a0_0, .slice A0_1 l0_1.length c0_1, .slice A0_2 l0_2.length c0_2], .int .i64 a1_1] rfl mapz ?_; (with_reducible refine (dropperref05_At.calls kj20 a0_0 _ _ l0_1 _ _ l0_2 a1_1 true _ ?side1 ?side2 ?side3 ?side4 A34.out).mono ?_); (case side1 => exact cbz HR0_1); (case side2 => exact HC0_1.out); (case side3 => exact cbz HR0_2); (case side4 => exact HC0_2.out); rintro e w48 ⟨rfl, hb⟩; refine ⟨_, rfl, ?_⟩; replace HO744 := Aside0.mk (Kd.N_below (by (with_reducible repeat (first | apply Kd.N_alloc | apply Kd.N_drewN | apply Kd.N_drew)); exact HO744.out) hb); replace BK733 := Aside0.mk (blk_below (g := gb733) blkz hb); replace BK734 := Aside0.mk (blk_below (g := gb734) blkz hb); replace HB := Aside0.mk (below_step bel hb); (try clear hb); (try clear hb2); (try clear hk); (try clear hi); obtain ⟨Ao49, co49, eo49⟩ := Kd.N_slice HO744.out; subst eo49) | (go_at_call 12; (with_reducible refine (dropperlaw05_First.calls kj20  t749 _ ?sideT A38.out).mono ?_); (case sideT => first | exact HT.out | exact Tab.Tabs.below HT.out bel | (with_reducible repeat (first | exact HT.out | apply Tab.Tabs.alloc | apply Tab.Tabs.drewN | apply Tab.Tabs.drew))); rintro e w50 ⟨rfl, hb⟩; replace HO744 := Aside0.mk (Kd.N_below (by (with_reducible repeat (first | apply Kd.N_alloc | apply Kd.N_drewN | apply Kd.N_drew)); exact HO744.out) hb); replace BK733 := Aside0.mk (blk_below (g := gb733) blkz hb); replace BK734 := Aside0.mk (blk_below (g := gb734) blkz hb); replace HB := Aside0.mk (below_step bel hb); (try clear hb); (try clear hb2); (try clear hk); (try clear hi)))
           go_ret
           exact ⟨ezz, bel⟩
          ·
           rw [if_neg c37] at H
           exact absurd H (by simp)
         ·
          rw [if_neg c36] at H
          exact absurd H (by simp)
        ·
         replace c35 := Bool.eq_false_iff.mpr c35
         subst c35
         have H1 : ((dropperref05_AreFeeds.f kj20 a0_0 l0_1 l0_2 a1_0 a1_1 t742).bind fun bt750 => (if t745 = 0 then (if bt750.2 = 0 then (if bt750.1 = true then ((dropperref05_Fewest.f kj20 a0_0 l0_1 l0_2 a1_0 a1_1).bind fun t752 => (if (t742.length : Int) = t752 then ((dropperlaw05_First.f kj20).bind fun t753 => (some t753)) else (none))) else (none)) else (none)) else (none))) = some r := by rw [if_neg (show ¬ (false = true) by decide)] at H; exact H
         clear H
         have H := H1
         clear H1
         replace H := Option.bind_eq_some_iff.mp H
         obtain ⟨⟨t750, t751⟩, A510, H⟩ := H
         replace H : (if t745 = 0 then (if t751 = 0 then (if t750 = true then ((dropperref05_Fewest.f kj20 a0_0 l0_1 l0_2 a1_0 a1_1).bind fun t752 => (if (t742.length : Int) = t752 then ((dropperlaw05_First.f kj20).bind fun t753 => (some t753)) else (none))) else (none)) else (none)) else (none)) = some r := H
         have A51 := Aside0.mk A510
         clear A510
         by_cases c52 : t745 = 0
         ·
          rw [if_pos c52] at H
          have c52b0 : (t745 == 0) = true := beq_iff_eq.mpr c52
          have c52b1 : (t745 != 0) = false := bne_eq_false_iff_eq.mpr c52
          clear c52
          by_cases c53 : t751 = 0
          ·
           rw [if_pos c53] at H
           have c53b0 : (t751 == 0) = true := beq_iff_eq.mpr c53
           have c53b1 : (t751 != 0) = false := bne_eq_false_iff_eq.mpr c53
           clear c53
           by_cases c54 : t750 = true
           ·
            subst c54
            have H1 : ((dropperref05_Fewest.f kj20 a0_0 l0_1 l0_2 a1_0 a1_1).bind fun t752 => (if (t742.length : Int) = t752 then ((dropperlaw05_First.f kj20).bind fun t753 => (some t753)) else (none))) = some r := by rw [if_pos rfl] at H; exact H
            clear H
            have H := H1
            clear H1
            replace H := Option.bind_eq_some_iff.mp H
            obtain ⟨t752, A550, H⟩ := H
            replace H : (if (t742.length : Int) = t752 then ((dropperlaw05_First.f kj20).bind fun t753 => (some t753)) else (none)) = some r := H
            have A55 := Aside0.mk A550
            clear A550
            by_cases c56 : (t742.length : Int) = t752
            ·
             rw [if_pos c56] at H
             have c56b0 : ((t742.length : Int) == t752) = true := beq_iff_eq.mpr c56
             have c56b1 : ((t742.length : Int) != t752) = false := bne_eq_false_iff_eq.mpr c56
             clear c56
             replace H := Option.bind_eq_some_iff.mp H
             obtain ⟨t753, A570, H⟩ := H
             replace H : (some t753) = some r := H
             have A57 := Aside0.mk A570
             clear A570
             obtain rfl := Option.some.inj H
             have hnb58 := NB733_734.out
             have hnc58 := NB734_733.out
             have hcz59_0 := blkc BK733.out 0 (.int .i64 a0_0) rfl
             have hcz59_1 := blkc BK733.out 1 (.slice A0_1 l0_1.length c0_1) rfl
             have hcz59_2 := blkc BK733.out 2 (.slice A0_2 l0_2.length c0_2) rfl
             have hfz59_0 := blk_frozen BK733.out 0
             have hfz59_1 := blk_frozen BK733.out 1
             have hfz59_2 := blk_frozen BK733.out 2
             have hcz60_0 := blkc BK734.out 0 (.int .i64 a1_0) rfl
             have hcz60_1 := blkc BK734.out 1 (.int .i64 a1_1) rfl
             have hfz60_0 := blk_frozen BK734.out 0
             have hfz60_1 := blk_frozen BK734.out 1
             go_wp2_with (first | ((with_reducible refine gate_callee (f := 41) rfl ?_); refine goesL_ (some 54) rfl rfl Tryd.func41 (by kernel_rfl) rfl #[.agg #[.int .i64 a0_0, .slice A0_1 l0_1.length c0_1, .slice A0_2 l0_2.length c0_2], .int .i64 a1_0, .int .i64 a1_1] rfl mapz ?_; (with_reducible refine (feed_Feeds.calls kj20 a0_0 _ _ l0_1 _ _ l0_2 a1_0 a1_1 t742 t745 _ ?side1 ?side2 ?side3 ?side4 A31.out).mono ?_); (case side1 => exact cbz HR0_1); (case side2 => exact HC0_1.out); (case side3 => exact cbz HR0_2); (case side4 => exact HC0_2.out); rintro e w61 ⟨v743, rfl, ho0, hb⟩; refine ⟨_, rfl, ?_⟩; have HO744 := Aside0.mk (Kd.N_lower (Kd.N_mono (ok' := fun k_ => k_ ≠ gb733 ∧ k_ ≠ gb734) ho0 (fun k_ hk_ => ⟨(Kd.freshB (g := gb733) (o := .cells #[.int .i64 a0_0, .slice A0_1 l0_1.length c0_1, .slice A0_2 l0_2.length c0_2] 25 (0, 0)) blkz k_ hk_), (Kd.freshB (g := gb734) (o := .cells #[.int .i64 a1_0, .int .i64 a1_1] 43 (0, 0)) blkz k_ hk_)⟩)) (below_size bel)); replace BK733 := Aside0.mk (blk_below (g := gb733) blkz hb); replace BK734 := Aside0.mk (blk_below (g := gb734) blkz hb); replace HB := Aside0.mk (below_step bel hb); (try clear hb); (try clear hb2); (try clear hk); (try clear hi); (try clear ho0); have hcz62_0 := blkc BK733.out 0 (.int .i64 a0_0) rfl; have hcz62_1 := blkc BK733.out 1 (.slice A0_1 l0_1.length c0_1) rfl; have hcz62_2 := blkc BK733.out 2 (.slice A0_2 l0_2.length c0_2) rfl; have hcz63_0 := blkc BK734.out 0 (.int .i64 a1_0) rfl; have hcz63_1 := blkc BK734.out 1 (.int .i64 a1_1) rfl) | ((with_reducible refine gate_callee (f := 25) rfl ?_); refine goesL_ (some 62) rfl rfl Tryd.func25 (by kernel_rfl) rfl #[.agg #[.int .i64 a0_0, .slice A0_1 l0_1.length c0_1, .slice A0_2 l0_2.length c0_2], .int .i64 a1_0, .int .i64 a1_1] rfl mapz ?_; (with_reducible refine (dropperref05_Why.calls kj20 a0_0 _ _ l0_1 _ _ l0_2 a1_0 a1_1 t746 _ ?side1 ?side2 ?side3 ?side4 A32.out).mono ?_); (case side1 => exact cbz HR0_1); (case side2 => exact HC0_1.out); (case side3 => exact cbz HR0_2); (case side4 => exact HC0_2.out); rintro e w64 ⟨rfl, hb⟩; refine ⟨_, rfl, ?_⟩; replace HO744 := Aside0.mk (Kd.N_below (by (with_reducible repeat (first | apply Kd.N_alloc | apply Kd.N_drewN | apply Kd.N_drew)); exact HO744.out) hb); replace BK733 := Aside0.mk (blk_below (g := gb733) blkz hb); replace BK734 := Aside0.mk (blk_below (g := gb734) blkz hb); replace HB := Aside0.mk (below_step bel hb); (try clear hb); (try clear hb2); (try clear hk); (try clear hi); have hcz65_0 := blkc BK733.out 0 (.int .i64 a0_0) rfl; have hcz65_1 := blkc BK733.out 1 (.slice A0_1 l0_1.length c0_1) rfl; have hcz65_2 := blkc BK733.out 2 (.slice A0_2 l0_2.length c0_2) rfl; have hcz66_0 := blkc BK734.out 0 (.int .i64 a1_0) rfl; have hcz66_1 := blkc BK734.out 1 (.int .i64 a1_1) rfl) | ((with_reducible refine gate_callee (f := 26) rfl ?_); refine goesL_ (some 79) rfl rfl Tryd.func26 (by kernel_rfl) rfl #[.agg #[.int .i64 a0_0, .slice A0_1 l0_1.length c0_1, .slice A0_2 l0_2.length c0_2], .int .i64 a1_1] rfl mapz ?_; (with_reducible refine (dropperref05_At.calls kj20 a0_0 _ _ l0_1 _ _ l0_2 a1_1 false _ ?side1 ?side2 ?side3 ?side4 A34.out).mono ?_); (case side1 => exact cbz HR0_1); (case side2 => exact HC0_1.out); (case side3 => exact cbz HR0_2); (case side4 => exact HC0_2.out); rintro e w67 ⟨rfl, hb⟩; refine ⟨_, rfl, ?_⟩; replace HO744 := Aside0.mk (Kd.N_below (by (with_reducible repeat (first | apply Kd.N_alloc | apply Kd.N_drewN | apply Kd.N_drew)); exact HO744.out) hb); replace BK733 := Aside0.mk (blk_below (g := gb733) blkz hb); replace BK734 := Aside0.mk (blk_below (g := gb734) blkz hb); replace HB := Aside0.mk (below_step bel hb); (try clear hb); (try clear hb2); (try clear hk); (try clear hi); have hcz68_0 := blkc BK733.out 0 (.int .i64 a0_0) rfl; have hcz68_1 := blkc BK733.out 1 (.slice A0_1 l0_1.length c0_1) rfl; have hcz68_2 := blkc BK733.out 2 (.slice A0_2 l0_2.length c0_2) rfl; have hcz69_0 := blkc BK734.out 0 (.int .i64 a1_0) rfl; have hcz69_1 := blkc BK734.out 1 (.int .i64 a1_1) rfl; obtain ⟨Ao70, co70, eo70⟩ := Kd.N_slice HO744.out; subst eo70) | ((with_reducible refine gate_callee (f := 40) rfl ?_); refine goesL_ (some 97) rfl rfl Tryd.func40 (by kernel_rfl) rfl #[.agg #[.int .i64 a0_0, .slice A0_1 l0_1.length c0_1, .slice A0_2 l0_2.length c0_2], .int .i64 a1_0, .int .i64 a1_1, .slice Ao70 t742.length co70] rfl mapz ?_; (with_reducible refine (dropperref05_AreFeeds.calls kj20 a0_0 _ _ l0_1 _ _ l0_2 a1_0 a1_1 _ _ t742 true t751 _ ?side1 ?side2 ?side3 ?side4 ?side5 ?side6 A51.out).mono ?_); (case side1 => exact cbz HR0_1); (case side2 => exact HC0_1.out); (case side3 => exact cbz HR0_2); (case side4 => exact HC0_2.out); (case side5 => repeat (first | exact (Kd.N_reads' HO744.out).2.2 | (with_reducible refine Kd.C_alloc ?_ _) | (with_reducible refine Kd.C_drewN ?_ _) | (with_reducible refine Kd.C_drew ?_))); (case side6 => exact (Kd.N_reads' HO744.out).2.1); rintro e w71 ⟨rfl, hb⟩; refine ⟨_, rfl, ?_⟩; replace HO744 := Aside0.mk (Kd.N_below (by (with_reducible repeat (first | apply Kd.N_alloc | apply Kd.N_drewN | apply Kd.N_drew)); exact HO744.out) hb); replace BK733 := Aside0.mk (blk_below (g := gb733) blkz hb); replace BK734 := Aside0.mk (blk_below (g := gb734) blkz hb); replace HB := Aside0.mk (below_step bel hb); (try clear hb); (try clear hb2); (try clear hk); (try clear hi); have hcz72_0 := blkc BK733.out 0 (.int .i64 a0_0) rfl; have hcz72_1 := blkc BK733.out 1 (.slice A0_1 l0_1.length c0_1) rfl; have hcz72_2 := blkc BK733.out 2 (.slice A0_2 l0_2.length c0_2) rfl; have hcz73_0 := blkc BK734.out 0 (.int .i64 a1_0) rfl; have hcz73_1 := blkc BK734.out 1 (.int .i64 a1_1) rfl) | (go_at_call 27; (with_reducible refine (dropperref05_Fewest.calls kj20 a0_0 _ _ l0_1 _ _ l0_2 a1_0 a1_1 t752 _ ?side1 ?side2 ?side3 ?side4 A55.out).mono ?_); (case side1 => exact cbz HR0_1); (case side2 => exact HC0_1.out); (case side3 => exact cbz HR0_2); (case side4 => exact HC0_2.out); rintro e w74 ⟨rfl, hb⟩; replace HO744 := Aside0.mk (Kd.N_below (by (with_reducible repeat (first | apply Kd.N_alloc | apply Kd.N_drewN | apply Kd.N_drew)); exact HO744.out) hb); replace BK733 := Aside0.mk (blk_below (g := gb733) blkz hb); replace BK734 := Aside0.mk (blk_below (g := gb734) blkz hb); replace HB := Aside0.mk (below_step bel hb); (try clear hb); (try clear hb2); (try clear hk); (try clear hi)) | (go_at_call 12; (with_reducible refine (dropperlaw05_First.calls kj20  t753 _ ?sideT A57.out).mono ?_); (case sideT => first | exact HT.out | exact Tab.Tabs.below HT.out bel | (with_reducible repeat (first | exact HT.out | apply Tab.Tabs.alloc | apply Tab.Tabs.drewN | apply Tab.Tabs.drew))); rintro e w75 ⟨rfl, hb⟩; replace HO744 := Aside0.mk (Kd.N_below (by (with_reducible repeat (first | apply Kd.N_alloc | apply Kd.N_drewN | apply Kd.N_drew)); exact HO744.out) hb); replace BK733 := Aside0.mk (blk_below (g := gb733) blkz hb); replace BK734 := Aside0.mk (blk_below (g := gb734) blkz hb); replace HB := Aside0.mk (below_step bel hb); (try clear hb); (try clear hb2); (try clear hk); (try clear hi)))
             go_ret
             exact ⟨ezz, bel⟩
            ·
             rw [if_neg c56] at H
             exact absurd H (by simp)
           ·
            replace c54 := Bool.eq_false_iff.mpr c54
            subst c54
            have H1 : (none) = some r := by rw [if_neg (show ¬ (false = true) by decide)] at H; exact H
            clear H
            have H := H1
            clear H1
            exact absurd H (by simp)
          ·
           rw [if_neg c53] at H
           exact absurd H (by simp)
         ·
          rw [if_neg c52] at H
          exact absurd H (by simp)
       ·
        rw [if_neg c33] at H
        have c33b0 : (t746 == 0) = false := beq_eq_false_iff_ne.mpr c33
        have c33b1 : (t746 != 0) = true := bne_iff_ne.mpr c33
        by_cases c76 : (t742.length : Int) = 0
        ·
         rw [if_pos c76] at H
         have c76b0 : ((t742.length : Int) == 0) = true := beq_iff_eq.mpr c76
         have c76b1 : ((t742.length : Int) != 0) = false := bne_eq_false_iff_eq.mpr c76
         clear c76
         by_cases c77 : t745 = t746
         ·
          rw [if_pos c77] at H
          have c77b0 : (t745 == t746) = true := beq_iff_eq.mpr c77
          have c77b1 : (t745 != t746) = false := bne_eq_false_iff_eq.mpr c77
          clear c77
          replace H := Option.bind_eq_some_iff.mp H
          obtain ⟨t747, A780, H⟩ := H
          replace H : (some t747) = some r := H
          have A78 := Aside0.mk A780
          clear A780
          obtain rfl := Option.some.inj H
          have hnb79 := NB733_734.out
          have hnc79 := NB734_733.out
          have hcz80_0 := blkc BK733.out 0 (.int .i64 a0_0) rfl
          have hcz80_1 := blkc BK733.out 1 (.slice A0_1 l0_1.length c0_1) rfl
          have hcz80_2 := blkc BK733.out 2 (.slice A0_2 l0_2.length c0_2) rfl
          have hfz80_0 := blk_frozen BK733.out 0
          have hfz80_1 := blk_frozen BK733.out 1
          have hfz80_2 := blk_frozen BK733.out 2
          have hcz81_0 := blkc BK734.out 0 (.int .i64 a1_0) rfl
          have hcz81_1 := blkc BK734.out 1 (.int .i64 a1_1) rfl
          have hfz81_0 := blk_frozen BK734.out 0
          have hfz81_1 := blk_frozen BK734.out 1
          go_wp2_with (first | ((with_reducible refine gate_callee (f := 41) rfl ?_); refine goesL_ (some 54) rfl rfl Tryd.func41 (by kernel_rfl) rfl #[.agg #[.int .i64 a0_0, .slice A0_1 l0_1.length c0_1, .slice A0_2 l0_2.length c0_2], .int .i64 a1_0, .int .i64 a1_1] rfl mapz ?_; (with_reducible refine (feed_Feeds.calls kj20 a0_0 _ _ l0_1 _ _ l0_2 a1_0 a1_1 t742 t745 _ ?side1 ?side2 ?side3 ?side4 A31.out).mono ?_); (case side1 => exact cbz HR0_1); (case side2 => exact HC0_1.out); (case side3 => exact cbz HR0_2); (case side4 => exact HC0_2.out); rintro e w82 ⟨v743, rfl, ho0, hb⟩; refine ⟨_, rfl, ?_⟩; have HO744 := Aside0.mk (Kd.N_lower (Kd.N_mono (ok' := fun k_ => k_ ≠ gb733 ∧ k_ ≠ gb734) ho0 (fun k_ hk_ => ⟨(Kd.freshB (g := gb733) (o := .cells #[.int .i64 a0_0, .slice A0_1 l0_1.length c0_1, .slice A0_2 l0_2.length c0_2] 25 (0, 0)) blkz k_ hk_), (Kd.freshB (g := gb734) (o := .cells #[.int .i64 a1_0, .int .i64 a1_1] 43 (0, 0)) blkz k_ hk_)⟩)) (below_size bel)); replace BK733 := Aside0.mk (blk_below (g := gb733) blkz hb); replace BK734 := Aside0.mk (blk_below (g := gb734) blkz hb); replace HB := Aside0.mk (below_step bel hb); (try clear hb); (try clear hb2); (try clear hk); (try clear hi); (try clear ho0); have hcz83_0 := blkc BK733.out 0 (.int .i64 a0_0) rfl; have hcz83_1 := blkc BK733.out 1 (.slice A0_1 l0_1.length c0_1) rfl; have hcz83_2 := blkc BK733.out 2 (.slice A0_2 l0_2.length c0_2) rfl; have hcz84_0 := blkc BK734.out 0 (.int .i64 a1_0) rfl; have hcz84_1 := blkc BK734.out 1 (.int .i64 a1_1) rfl) | ((with_reducible refine gate_callee (f := 25) rfl ?_); refine goesL_ (some 62) rfl rfl Tryd.func25 (by kernel_rfl) rfl #[.agg #[.int .i64 a0_0, .slice A0_1 l0_1.length c0_1, .slice A0_2 l0_2.length c0_2], .int .i64 a1_0, .int .i64 a1_1] rfl mapz ?_; (with_reducible refine (dropperref05_Why.calls kj20 a0_0 _ _ l0_1 _ _ l0_2 a1_0 a1_1 t746 _ ?side1 ?side2 ?side3 ?side4 A32.out).mono ?_); (case side1 => exact cbz HR0_1); (case side2 => exact HC0_1.out); (case side3 => exact cbz HR0_2); (case side4 => exact HC0_2.out); rintro e w85 ⟨rfl, hb⟩; refine ⟨_, rfl, ?_⟩; replace HO744 := Aside0.mk (Kd.N_below (by (with_reducible repeat (first | apply Kd.N_alloc | apply Kd.N_drewN | apply Kd.N_drew)); exact HO744.out) hb); replace BK733 := Aside0.mk (blk_below (g := gb733) blkz hb); replace BK734 := Aside0.mk (blk_below (g := gb734) blkz hb); replace HB := Aside0.mk (below_step bel hb); (try clear hb); (try clear hb2); (try clear hk); (try clear hi); obtain ⟨Ao86, co86, eo86⟩ := Kd.N_slice HO744.out; subst eo86) | (go_at_call 12; (with_reducible refine (dropperlaw05_First.calls kj20  t747 _ ?sideT A78.out).mono ?_); (case sideT => first | exact HT.out | exact Tab.Tabs.below HT.out bel | (with_reducible repeat (first | exact HT.out | apply Tab.Tabs.alloc | apply Tab.Tabs.drewN | apply Tab.Tabs.drew))); rintro e w87 ⟨rfl, hb⟩; replace HO744 := Aside0.mk (Kd.N_below (by (with_reducible repeat (first | apply Kd.N_alloc | apply Kd.N_drewN | apply Kd.N_drew)); exact HO744.out) hb); replace BK733 := Aside0.mk (blk_below (g := gb733) blkz hb); replace BK734 := Aside0.mk (blk_below (g := gb734) blkz hb); replace HB := Aside0.mk (below_step bel hb); (try clear hb); (try clear hb2); (try clear hk); (try clear hi)))
          go_ret
          exact ⟨ezz, bel⟩
         ·
          rw [if_neg c77] at H
          exact absurd H (by simp)
        ·
         rw [if_neg c76] at H
         exact absurd H (by simp)

end Go.Proofs.YtoilhnmdemnknaaDoor.XFeed
-- Written by wip/xprint.py of this repo, over the kit's print.py: out of the translation; the oracles in it are by hand. Not trusted: Lean checks it.
namespace Go.Proofs.YtoilhnmdemnknaaDoor.XFeed
open Go.RowKit Go.Proofs.YtoilhnmdemnknaaDoor.XFeed Go.Proofs.YtoilhnmdemnknaaDoorW.PrintWords Go.Proofs.YtoilhnmdemnknaaDoorW.PrintLast Go.Proofs.YtoilhnmdemnknaaDoorW.PrintMore
def dropperlaw05_FeedFeeds.Pure : Prop := ∀ (a0_0 : Int) (l0_1 : List (S69)) (l0_2 : List (S71)) (a1_0 : Int) (a1_1 : Int) (l2 : List (List Int)), ((Lit.int .i64 a0_0).wf = true) → (l0_1.length ≤ 9223372036854775807 ∧ ∀ y0 ∈ l0_1, ((Lit.int .i64 y0.f0).wf = true) ∧ ((Lit.int .i64 y0.f1).wf = true)) → (l0_2.length ≤ 9223372036854775807 ∧ ∀ y0 ∈ l0_2, ((Lit.int .i64 y0.f0).wf = true) ∧ ((Lit.int .i64 y0.f1).wf = true)) → ((Lit.int .i64 a1_0).wf = true) → ((Lit.int .i64 a1_1).wf = true) → (l2.length ≤ 9223372036854775807 ∧ ∀ y0 ∈ l2, y0.length ≤ 9223372036854775807 ∧ ∀ y1 ∈ y0, (Lit.int .i64 y1).wf = true) → ∃ k, dropperlaw05_FeedFeeds.f k a0_0 l0_1 l0_2 a1_0 a1_1 l2 = some true
end Go.Proofs.YtoilhnmdemnknaaDoor.XFeed

namespace Go.Proofs.YtoilhnmdemnknaaDoor.XFeed
open Go.RowKit Go.Proofs.YtoilhnmdemnknaaDoorW.PrintWords Go.Proofs.YtoilhnmdemnknaaDoorW.PrintLast Go.Proofs.YtoilhnmdemnknaaDoorW.PrintMore
attribute [local go_sem] max2_int min2_int max_two min_two max_three min_three max_four min_four   -- for this text's walks alone
set_option linter.unusedVariables false
set_option linter.unusedSimpArgs false
/-! ### dropperref05_Isolates: function 23 -/
mutual
def dropperref05_Isolates.l0 : Nat → Int → Int → List Int → Int → Int → List (S69) → List (S71) → Option (Bool × Int)
 | 0, _, _, _, _, _, _, _ => none
 | k + 1, x1, x2, x3, x11, x365000, x365001, x365002 => if x11 < (x3.length : Int) then (if 0 ≤ x11 then (if (rd x3 x11) < 0 then (some (false, 0)) else (if (rd x3 x11) ≥ (x365001.length : Int) then (some (false, 0)) else ((dropperref05_closed.f x1 (rd x3 x11)).bind fun t369 => (if t369 = true then (if x11 > 0 then (if 0 ≤ (wrap64 (x11 - 1)) then (if (wrap64 (x11 - 1)) < (x3.length : Int) then (if (rd x3 x11) ≤ (rd x3 (wrap64 (x11 - 1))) then (some (false, 0)) else (dropperref05_Isolates.l0 k x1 x2 x3 (wrap64 (x11 + 1)) x365000 x365001 x365002)) else (none)) else (none)) else (dropperref05_Isolates.l0 k x1 x2 x3 (wrap64 (x11 + 1)) x365000 x365001 x365002)) else (some (false, 0)))))) else (none)) else (dropperref05_Isolates.l1 k x1 x2 x3 0 x365000 x365001 x365002)
def dropperref05_Isolates.l1 : Nat → Int → Int → List Int → Int → Int → List (S69) → List (S71) → Option (Bool × Int)
 | 0, _, _, _, _, _, _, _ => none
 | k + 1, x1, x2, x3, x12, x365000, x365001, x365002 => if x12 < (x3.length : Int) then (if 0 ≤ x12 then (if 0 ≤ (rd x3 x12) then (dropperref05_Isolates.l1 k (wrap64 (x1 - (shl .i64 1 (rd x3 x12)))) x2 x3 (wrap64 (x12 + 1)) x365000 x365001 x365002) else (none)) else (none)) else ((dropperref05_live.f k x365000 x365001 x365002 x1).bind fun t373 => (if 0 ≤ x2 then (if x2 < (t373.length : Int) then (some (((rd t373 x2) == 0), 0)) else (none)) else (none)))
end
def dropperref05_Isolates.f (k : Nat) (a0_0 : Int) (l0_1 : List (S69)) (l0_2 : List (S71)) (a1 : Int) (a2 : Int) (l3 : List Int) : Option (Bool × Int) := (dropperref05_Why.f k a0_0 l0_1 l0_2 a1 a2).bind fun t365 => (if t365 = 0 then (dropperref05_Isolates.l0 k a1 a2 l3 0 a0_0 l0_1 l0_2) else (some (false, t365)))
def dropperref05_Isolates.T7 : Bool × List (List Nat × List Nat) := (true, [([], []), ([], []), ([0, 1], [0, 1]), ([2], [2]), ([3], [3]), ([4], [4]), ([5], [5]), ([5], [5]), ([6, 7, 5], [5, 6, 7]), ([8, 5], [5, 8]), ([5], [5]), ([10, 5], [5, 10]), ([11, 5], [5, 11]), ([9, 12, 5], [5, 9, 12]), ([5, 13], [5, 13]), ([14, 5], [14]), ([15], [15]), ([15], [15]), ([15], [15]), ([17, 18, 15], [15, 17, 18]), ([19, 15], [15, 19]), ([16, 20, 15, 15], [15, 16, 20]), ([21, 15], [15, 21]), ([15, 22], [15, 22]), ([23, 21], [23]), ([24], [24]), ([25, 24], [24, 25]), ([26, 24, 24], [24, 26]), ([27], [27]), ([27], [27]), ([28, 29, 27], [27, 28, 29]), ([30, 27], [27, 30]), ([27], [27]), ([27], [27]), ([33, 27], [27, 33]), ([32, 34, 27], [27, 32, 34]), ([35, 27], [27, 35]), ([31, 36, 27], [27, 31, 36]), ([27, 37, 24], [24, 27, 37]), ([24, 38], [24, 38])])
def dropperref05_Isolates.B7 : List Nat := [0, 0, 3, 7, 15, 31, 63, 63, 255, 511, 63, 1087, 3135, 8191, 16383, 32767, 65535, 65535, 65535, 458751, 983039, 2097151, 4194303, 8388607, 16777215, 33554431, 67108863, 134217727, 268435455, 268435455, 1073741823, 2147483647, 268435455, 268435455, 8858370047, 30333206527, 64692944895, 137438953471, 274877906943, 549755813887]
theorem dropperref05_Isolates.tab7 : rtab .any (opsOf Tryd.f23 7) = dropperref05_Isolates.T7 := by kernel_rfl
theorem dropperref05_Isolates.bits7 : waitsOk dropperref05_Isolates.T7.2 dropperref05_Isolates.B7 = true := by kernel_rfl
/-! ### feed_Isolates: function 22 -/
def feed_Isolates.l0 : Nat → Int → Int → List Int → Int → List Int → Int → Int → Int → List (S69) → List (S71) → Int → List (S69) → List (S71) → Option (Bool × Int)
 | 0, _, _, _, _, _, _, _, _, _, _, _, _, _ => none
 | k + 1, x1, x2, x3, x12, x26, x27, x28, x348000, x348001, x348002, x357000, x357001, x357002 => if x28 < x27 then (if 0 ≤ x28 then (if x28 < (x26.length : Int) then ((feed_within.f 0 (rd x26 x28) (wrap64 ((x348001.length : Int) - 1))).bind fun t358 => (if t358 = true then (if 0 ≤ (rd x26 x28) then (if (Go.bits .and .i64 (shr .i64 x1 (rd x26 x28)) 1) = 0 then (some (false, 0)) else (if x28 > 0 then (if 0 ≤ (wrap64 (x28 - 1)) then (if (wrap64 (x28 - 1)) < (x3.length : Int) then (if (rd x26 x28) ≤ (rd x3 (wrap64 (x28 - 1))) then (some (false, 0)) else (feed_Isolates.l0 k x1 x2 x3 (Go.bits .andNot .i64 x12 (shl .i64 1 (rd x26 x28))) x26 x27 (wrap64 (x28 + 1)) x348000 x348001 x348002 x357000 x357001 x357002)) else (none)) else (none)) else (feed_Isolates.l0 k x1 x2 x3 (Go.bits .andNot .i64 x12 (shl .i64 1 (rd x26 x28))) x26 x27 (wrap64 (x28 + 1)) x348000 x348001 x348002 x357000 x357001 x357002))) else (none)) else (some (false, 0)))) else (none)) else (none)) else ((feed_grid_dead.f k x357000 x357001 x357002 x12 x2).bind fun t360 => (some (t360, 0)))
def feed_Isolates.f (k : Nat) (a0_0 : Int) (l0_1 : List (S69)) (l0_2 : List (S71)) (a1 : Int) (a2 : Int) (l3 : List Int) : Option (Bool × Int) := (feed_asked.f a0_0 l0_1 l0_2 a1 a2).bind fun bt348 => (if bt348.2 = 0 then (feed_Isolates.l0 k a1 a2 l3 a1 l3 (l3.length : Int) 0 a0_0 l0_1 l0_2 bt348.1 l0_1 l0_2) else (some (false, bt348.2)))
/-! ### dropperref05_right: function 51 -/
def dropperref05_right.l0 : Nat → List Int → Int → Int → List (S69) → List (S71) → Option (Bool)
 | 0, _, _, _, _, _ => none
 | k + 1, x5, x6, x290000, x290001, x290002 => if x6 < x290000 then (if 0 ≤ x6 then (if x6 < (x5.length : Int) then (if (rd x5 x6) < 0 then (some false) else (dropperref05_right.l0 k x5 (wrap64 (x6 + 1)) x290000 x290001 x290002)) else (none)) else (none)) else (some true)
def dropperref05_right.f (k : Nat) (a0_0 : Int) (l0_1 : List (S69)) (l0_2 : List (S71)) (a1 : Int) : Option (Bool) := (dropperref05_live.f k a0_0 l0_1 l0_2 a1).bind fun t290 => (dropperref05_right.l0 k t290 0 a0_0 l0_1 l0_2)
/-! ### dropperref05_States: function 18 -/
def dropperref05_States.l0 : Nat → Int → Int → Int → List (S69) → List (S71) → Option (Int × Int)
 | 0, _, _, _, _, _ => none
 | k + 1, x4, x5, x298000, x298001, x298002 => if x5 < (shl .i64 1 (x298001.length : Int)) then ((dropperref05_right.f k x298000 x298001 x298002 x5).bind fun t299 => (if t299 = true then (dropperref05_States.l0 k (wrap64 (x4 + 1)) (wrap64 (x5 + 1)) x298000 x298001 x298002) else (dropperref05_States.l0 k x4 (wrap64 (x5 + 1)) x298000 x298001 x298002))) else (some (x4, 0))
def dropperref05_States.f (k : Nat) (a0_0 : Int) (l0_1 : List (S69)) (l0_2 : List (S71)) : Option (Int × Int) := (dropperref05_Valid.f k a0_0 l0_1 l0_2).bind fun t298 => (if t298 = true then (dropperref05_States.l0 k 0 0 a0_0 l0_1 l0_2) else (some (0, 50)))
/-! ### dropperref05_Live: function 14 -/
/-! ### dropperref05_Right: function 16 -/
/-! ### feed_Live: function 13 -/
/-! ### feed_Right: function 15 -/
/-! ### dropperlaw05_SameInts: function 21 -/
def dropperlaw05_SameInts.l0 : Nat → List Int → List Int → Int → Option (Bool)
 | 0, _, _, _ => none
 | k + 1, x0, x1, x5 => if x5 < (x0.length : Int) then (if 0 ≤ x5 then (if x5 < (x1.length : Int) then (if (rd x0 x5) = (rd x1 x5) then (dropperlaw05_SameInts.l0 k x0 x1 (wrap64 (x5 + 1))) else (some false)) else (none)) else (none)) else (some true)
end Go.Proofs.YtoilhnmdemnknaaDoor.XFeed
/- Go's bit operations on small numbers, as those of Nat. -/
namespace Go.Proofs.YtoilhnmdemnknaaDoor.Plain
open Go.RowKit Go.Proofs.YtoilhnmdemnknaaDoorW.PrintWords Go.Proofs.YtoilhnmdemnknaaDoorW.PrintLast Go.Proofs.YtoilhnmdemnknaaDoorW.PrintMore

theorem wrapU {n : Nat} (h : n < 2 ^ 62) : IntKind.u64.wrap (n : Int) = (n : Int) := by
 have e : IntKind.u64.wrap (n : Int) = (n : Int) % 18446744073709551616 := by simp [IntKind.wrap, IntKind.bits, IntKind.signed]
 rw [e]; omega
theorem wrapI {n : Nat} (h : n < 2 ^ 62) : IntKind.i64.wrap (n : Int) = (n : Int) := by
 rw [IntKind.wrap_i64]; omega
theorem ofInt_nat {w n : Nat} : BitVec.ofInt w (n : Int) = BitVec.ofNat w n := by simp
theorem and_u {x y : Nat} (hx : x < 2 ^ 62) (hy : y < 2 ^ 62) : Go.bits .and .u64 (x : Int) (y : Int) = ((x &&& y : Nat) : Int) := by
 have h : x &&& y < 2 ^ 62 := Nat.and_lt_two_pow x hy
 simp only [Go.bits, ofInt_nat, BitVec.toNat_and, BitVec.toNat_ofNat]
 rw [show IntKind.u64.bits = 64 from rfl, Nat.mod_eq_of_lt (show x < 2 ^ 64 by omega), Nat.mod_eq_of_lt (show y < 2 ^ 64 by omega)]
 exact wrapU h
theorem or_u {x y : Nat} (hx : x < 2 ^ 62) (hy : y < 2 ^ 62) : Go.bits .or .u64 (x : Int) (y : Int) = ((x ||| y : Nat) : Int) := by
 have h : x ||| y < 2 ^ 62 := Nat.or_lt_two_pow hx hy
 simp only [Go.bits, ofInt_nat, BitVec.toNat_or, BitVec.toNat_ofNat]
 rw [show IntKind.u64.bits = 64 from rfl, Nat.mod_eq_of_lt (show x < 2 ^ 64 by omega), Nat.mod_eq_of_lt (show y < 2 ^ 64 by omega)]
 exact wrapU h
theorem and_i {x y : Nat} (hx : x < 2 ^ 62) (hy : y < 2 ^ 62) : Go.bits .and .i64 (x : Int) (y : Int) = ((x &&& y : Nat) : Int) := by
 have h : x &&& y < 2 ^ 62 := Nat.and_lt_two_pow x hy
 simp only [Go.bits, ofInt_nat, BitVec.toNat_and, BitVec.toNat_ofNat]
 rw [show IntKind.i64.bits = 64 from rfl, Nat.mod_eq_of_lt (show x < 2 ^ 64 by omega), Nat.mod_eq_of_lt (show y < 2 ^ 64 by omega)]
 exact wrapI h
theorem or_i {x y : Nat} (hx : x < 2 ^ 62) (hy : y < 2 ^ 62) : Go.bits .or .i64 (x : Int) (y : Int) = ((x ||| y : Nat) : Int) := by
 have h : x ||| y < 2 ^ 62 := Nat.or_lt_two_pow hx hy
 simp only [Go.bits, ofInt_nat, BitVec.toNat_or, BitVec.toNat_ofNat]
 rw [show IntKind.i64.bits = 64 from rfl, Nat.mod_eq_of_lt (show x < 2 ^ 64 by omega), Nat.mod_eq_of_lt (show y < 2 ^ 64 by omega)]
 exact wrapI h
theorem shr_k {k : IntKind} (hk : k.bits = 64) {x i : Nat} (hi : i ≤ 64) : shr k (x : Int) (i : Int) = ((x >>> i : Nat) : Int) := by
 unfold shr
 rw [hk, Int.toNat_natCast, Nat.min_eq_left hi, Nat.shiftRight_eq_div_pow]
 simp
theorem shl_u {x i : Nat} (h : x * 2 ^ i < 2 ^ 62) (hi : i ≤ 64) : shl .u64 (x : Int) (i : Int) = ((x <<< i : Nat) : Int) := by
 unfold shl
 rw [show IntKind.u64.bits = 64 from rfl, Int.toNat_natCast, Nat.min_eq_left hi, Nat.shiftLeft_eq]
 have e : (x : Int) * 2 ^ i = ((x * 2 ^ i : Nat) : Int) := by simp
 rw [e]; exact wrapU h
theorem shl_i {x i : Nat} (h : x * 2 ^ i < 2 ^ 62) (hi : i ≤ 64) : shl .i64 (x : Int) (i : Int) = ((x <<< i : Nat) : Int) := by
 unfold shl
 rw [show IntKind.i64.bits = 64 from rfl, Int.toNat_natCast, Nat.min_eq_left hi, Nat.shiftLeft_eq]
 have e : (x : Int) * 2 ^ i = ((x * 2 ^ i : Nat) : Int) := by simp
 rw [e]; exact wrapI h
theorem bit_u {x i : Nat} (hx : x < 2 ^ 62) (hi : i ≤ 64) : Go.bits .and .u64 (shr .u64 (x : Int) (i : Int)) 1 = (if x.testBit i then 1 else 0 : Int) := by
 have h : x >>> i < 2 ^ 62 := Nat.lt_of_le_of_lt (by rw [Nat.shiftRight_eq_div_pow]; exact Nat.div_le_self _ _) hx
 rw [shr_k rfl hi, show (1 : Int) = ((1 : Nat) : Int) from rfl, and_u h (by omega), Nat.testBit, Nat.and_comm]
 have : 1 &&& x >>> i = (x >>> i) % 2 := by rw [Nat.and_comm, Nat.and_one_is_mod]
 rw [this]
 rcases Nat.mod_two_eq_zero_or_one (x >>> i) with h | h <;> simp [h]
theorem bit_i {x i : Nat} (hx : x < 2 ^ 62) (hi : i ≤ 64) : Go.bits .and .i64 (shr .i64 (x : Int) (i : Int)) 1 = (if x.testBit i then 1 else 0 : Int) := by
 have h : x >>> i < 2 ^ 62 := Nat.lt_of_le_of_lt (by rw [Nat.shiftRight_eq_div_pow]; exact Nat.div_le_self _ _) hx
 rw [shr_k rfl hi, show (1 : Int) = ((1 : Nat) : Int) from rfl, and_i h (by omega), Nat.testBit, Nat.and_comm]
 have : 1 &&& x >>> i = (x >>> i) % 2 := by rw [Nat.and_comm, Nat.and_one_is_mod]
 rw [this]
 rcases Nat.mod_two_eq_zero_or_one (x >>> i) with h | h <;> simp [h]
end Go.Proofs.YtoilhnmdemnknaaDoor.Plain

/- The sections to which one comes over closed switches, as the program reckons them. -/
namespace Go.Proofs.YtoilhnmdemnknaaDoor.Plain
set_option linter.unusedVariables false
set_option linter.unusedSimpArgs false
open Go.RowKit Go.Proofs.YtoilhnmdemnknaaDoor.XFeed Go.Proofs.YtoilhnmdemnknaaDoorW.PrintWords Go.Proofs.YtoilhnmdemnknaaDoorW.PrintLast Go.Proofs.YtoilhnmdemnknaaDoorW.PrintMore

theorem ev_const {α : Type} {o : Option α} {r : α} (h : o = some r) : Ev (fun _ => o) r := ⟨0, fun _ _ => h⟩
theorem ev_pos {α : Type} {c : Prop} [Decidable c] {a b : Nat → Option α} {r : α} (hc : c) (h : Ev a r) : Ev (fun k => if c then a k else b k) r :=
 Ev.congr (fun k => if_pos hc) h
theorem ev_neg {α : Type} {c : Prop} [Decidable c] {a b : Nat → Option α} {r : α} (hc : ¬ c) (h : Ev b r) : Ev (fun k => if c then a k else b k) r :=
 Ev.congr (fun k => if_neg hc) h
theorem ev_some {α β : Type} {a : α} {f : Nat → α → Option β} {r : β} (h : Ev (fun k => f k a) r) : Ev (fun k => (some a).bind (f k)) r := h
theorem wrap_id {x : Int} (h0 : -9223372036854775808 ≤ x) (h1 : x ≤ 9223372036854775807) : wrap64 x = x := by unfold wrap64; omega
theorem wrap_succ (n : Nat) (h : n ≤ 4000000000000000000) : wrap64 ((n : Int) + 1) = ((n + 1 : Nat) : Int) := by rw [wrap_id] <;> omega

def SwOk (n : Nat) (sw : List S69) : Prop := ∀ s ∈ sw, 0 ≤ s.f0 ∧ s.f0 < n ∧ 0 ≤ s.f1 ∧ s.f1 < n ∧ s.f0 ≠ s.f1
def Edge (sw : List S69) (st a b : Nat) : Prop := ∃ i, ∃ h : i < sw.length, st.testBit i = true ∧ ((sw[i].f0 = a ∧ sw[i].f1 = b) ∨ (sw[i].f0 = b ∧ sw[i].f1 = a))
inductive Conn (sw : List S69) (st : Nat) (a : Nat) : Nat → Prop
 | refl : Conn sw st a a
 | step {b c : Nat} : Conn sw st a b → Edge sw st b c → Conn sw st a c
theorem rd_S69 (xs : List S69) (i : Nat) (h : i < xs.length) : rd_T69 xs (i : Int) = xs[i] := by simp [rd_T69, List.getD_eq_getElem?_getD, h]

def two (a b : Nat) : Nat := 1 <<< a ||| 1 <<< b
theorem two_bit (a b j : Nat) : (two a b).testBit j = (decide (j = a) || decide (j = b)) := by
 simp only [two, Nat.testBit_or, Nat.one_shiftLeft, Nat.testBit_two_pow]
 rw [show decide (a = j) = decide (j = a) from decide_eq_decide.2 eq_comm, show decide (b = j) = decide (j = b) from decide_eq_decide.2 eq_comm]
theorem two_lt {a b : Nat} (ha : a < 8) (hb : b < 8) : two a b < 256 := by
 have h1 : 1 <<< a < 2 ^ 8 := by rw [Nat.one_shiftLeft]; exact Nat.pow_lt_pow_right (by decide) ha
 have h2 : 1 <<< b < 2 ^ 8 := by rw [Nat.one_shiftLeft]; exact Nat.pow_lt_pow_right (by decide) hb
 exact Nat.or_lt_two_pow h1 h2
theorem and_two_zero {m a b : Nat} : m &&& two a b = 0 ↔ m.testBit a = false ∧ m.testBit b = false := by
 constructor
 ·
  intro h
  have h2 := fun j => congrArg (fun x => x.testBit j) h
  simp only [Nat.testBit_and, two_bit, Nat.zero_testBit] at h2
  exact ⟨by simpa using h2 a, by simpa using h2 b⟩
 ·
  rintro ⟨h1, h2⟩
  apply Nat.eq_of_testBit_eq
  intro j
  simp only [Nat.testBit_and, two_bit, Nat.zero_testBit]
  by_cases ha : j = a
  ·
   subst ha; simp [h1]
  ·
   by_cases hb : j = b
   ·
    subst hb; simp [h2]
   ·
    simp [ha, hb]
theorem and_two_all {m a b : Nat} : m &&& two a b = two a b ↔ m.testBit a = true ∧ m.testBit b = true := by
 constructor
 ·
  intro h
  have h2 := fun j => congrArg (fun x => x.testBit j) h
  simp only [Nat.testBit_and, two_bit] at h2
  exact ⟨by simpa using h2 a, by simpa using h2 b⟩
 ·
  rintro ⟨h1, h2⟩
  apply Nat.eq_of_testBit_eq
  intro j
  simp only [Nat.testBit_and, two_bit]
  by_cases ha : j = a
  ·
   subst ha; simp [h1]
  ·
   by_cases hb : j = b
   ·
    subst hb; simp [h2]
   ·
    simp [ha, hb]
def Sound (sw : List S69) (st a m : Nat) : Prop := m < 256 ∧ m.testBit a = true ∧ ∀ j, m.testBit j = true → Conn sw st a j
def Even (sw : List S69) (st m i : Nat) : Prop := ∀ j, ∀ h : j < sw.length, j < i → st.testBit j = true → m.testBit (sw[j].f0).toNat = m.testBit (sw[j].f1).toNat
theorem conn_of_even {sw : List S69} {st a m : Nat} (hs : Sound sw st a m) (he : Even sw st m sw.length) {j : Nat} (h : Conn sw st a j) : m.testBit j = true := by
 induction h with
 | refl => exact hs.2.1
 | step _ e ih =>
  obtain ⟨i, hi, hb, h | h⟩ := e
  ·
   have := he i hi hi hb
   rw [h.1, h.2, Int.toNat_natCast, Int.toNat_natCast] at this
   rw [← this]; exact ih
  ·
   have := he i hi hi hb
   rw [h.1, h.2, Int.toNat_natCast, Int.toNat_natCast] at this
   rw [this]; exact ih
theorem or_two_sound {sw : List S69} {st a m : Nat} (hs : Sound sw st a m) {i : Nat} (hi : i < sw.length) (hb : st.testBit i = true) {x y : Nat} (hx : sw[i].f0 = x) (hy : sw[i].f1 = y) (hx8 : x < 8) (hy8 : y < 8)
  (h : m.testBit x = true ∨ m.testBit y = true) : Sound sw st a (m ||| two x y) := by
 have hlt8 : m ||| two x y < 2 ^ 8 := Nat.or_lt_two_pow hs.1 (two_lt hx8 hy8)
 refine ⟨hlt8, by rw [Nat.testBit_or, hs.2.1]; rfl, fun j hj => ?_⟩
 rw [Nat.testBit_or, two_bit] at hj
 have e1 : Edge sw st x y := ⟨i, hi, hb, .inl ⟨hx, hy⟩⟩
 have e2 : Edge sw st y x := ⟨i, hi, hb, .inr ⟨hx, hy⟩⟩
 by_cases hm : m.testBit j = true
 ·
  exact hs.2.2 j hm
 ·
  have hm2 : m.testBit j = false := by simpa using hm
  rw [hm2, Bool.false_or] at hj
  have hj2 : j = x ∨ j = y := by simpa using hj
  rcases hj2 with rfl | rfl
  ·
   rcases h with h | h
   ·
    exact hs.2.2 _ h
   ·
    exact Conn.step (hs.2.2 _ h) e2
  ·
   rcases h with h | h
   ·
    exact Conn.step (hs.2.2 _ h) e1
   ·
    exact hs.2.2 _ h
theorem or_gt {m t : Nat} (h : m &&& t ≠ t) : m < m ||| t := by
 refine Nat.lt_of_le_of_ne Nat.left_le_or (fun e => h ?_)
 have : (m ||| t) &&& t = t := by
  apply Nat.eq_of_testBit_eq
  intro j
  rw [Nat.testBit_and, Nat.testBit_or]
  cases m.testBit j <;> cases t.testBit j <;> rfl
 rw [← e] at this
 exact this
def Group (sw : List S69) (st a m : Nat) : Prop := Sound sw st a m ∧ Even sw st m sw.length
theorem group_l1 (n : Int) (sw : List S69) (fe : List S71) (hsw : SwOk 8 sw) (hlen : sw.length ≤ 20) (st a : Nat) (hst : st < 2 ^ 20) (m0 : Nat)
  (IH : ∀ m, m0 < m → Sound sw st a m → ∃ r, Ev (fun k => feed_grid_group.l0 k (st : Int) (m : Int) true n sw fe) ((r : Nat) : Int) ∧ Group sw st a r) :
  ∀ (d i m : Nat) (b : Bool), i + d = sw.length → Sound sw st a m → (b = false → m = m0 ∧ Even sw st m0 i) → (b = true → m0 < m) →
  ∃ r, Ev (fun k => feed_grid_group.l1 k (st : Int) (m : Int) b sw (sw.length : Int) (i : Int) n sw fe) ((r : Nat) : Int) ∧ Group sw st a r := by
 intro d
 induction d with
 | zero =>
  intro i m b hi hs hf ht
  obtain rfl : i = sw.length := by omega
  cases b with
  | true =>
   obtain ⟨r, h1, h2⟩ := IH m (ht rfl) hs
   refine ⟨r, ?_, h2⟩
   refine Ev.step (fun k => by rw [feed_grid_group.l1]) ?_
   exact ev_neg (by omega) h1
  | false =>
   obtain ⟨rfl, he⟩ := hf rfl
   refine ⟨m, ?_, hs, he⟩
   refine Ev.step (fun k => by rw [feed_grid_group.l1]) (ev_neg (by omega) ?_)
   refine Ev.step (fun k => by rw [feed_grid_group.l0]) ?_
   exact ev_neg (by simp) (Ev.now _)
 | succ d ih =>
  intro i m b hi hs hf ht
  have hlt : i < sw.length := by omega
  have hm := hs.1
  obtain ⟨x0, x1, y0, y1, hxy⟩ := hsw sw[i] (List.getElem_mem hlt)
  obtain ⟨x, hx⟩ := Int.eq_ofNat_of_zero_le x0
  obtain ⟨y, hy⟩ := Int.eq_ofNat_of_zero_le y0
  have hx8 : x < 8 := by omega
  have hy8 : y < 8 := by omega
  have ht2 := two_lt hx8 hy8
  have start : ∀ r : Nat, Ev (fun k => if (Go.bits .and .i64 (shr .i64 (st : Int) (i : Int)) 1) = 0 then feed_grid_group.l1 k (st : Int) (m : Int) b sw (sw.length : Int) (wrap64 ((i : Int) + 1)) n sw fe else (if 0 ≤ ((rd_T69 sw (i : Int)).f0) then (if 0 ≤ ((rd_T69 sw (i : Int)).f1) then (if (Go.bits .and .u64 (m : Int) (Go.bits .or .u64 (shl .u64 1 ((rd_T69 sw (i : Int)).f0)) (shl .u64 1 ((rd_T69 sw (i : Int)).f1)))) = 0 then (feed_grid_group.l1 k (st : Int) (m : Int) b sw (sw.length : Int) (wrap64 ((i : Int) + 1)) n sw fe) else (if (Go.bits .and .u64 (m : Int) (Go.bits .or .u64 (shl .u64 1 ((rd_T69 sw (i : Int)).f0)) (shl .u64 1 ((rd_T69 sw (i : Int)).f1)))) = (Go.bits .or .u64 (shl .u64 1 ((rd_T69 sw (i : Int)).f0)) (shl .u64 1 ((rd_T69 sw (i : Int)).f1))) then (feed_grid_group.l1 k (st : Int) (m : Int) b sw (sw.length : Int) (wrap64 ((i : Int) + 1)) n sw fe) else (feed_grid_group.l1 k (st : Int) (Go.bits .or .u64 (m : Int) (Go.bits .or .u64 (shl .u64 1 ((rd_T69 sw (i : Int)).f0)) (shl .u64 1 ((rd_T69 sw (i : Int)).f1)))) true sw (sw.length : Int) (wrap64 ((i : Int) + 1)) n sw fe))) else (none)) else (none))) (r : Int) →
    Ev (fun k => feed_grid_group.l1 k (st : Int) (m : Int) b sw (sw.length : Int) (i : Int) n sw fe) (r : Int) := by
   intro r h
   refine Ev.step (fun k => by rw [feed_grid_group.l1]) ?_
   exact ev_pos (by omega) (ev_pos (by omega) (ev_pos (by omega) h))
  rw [rd_S69 sw i hlt, hx, hy] at start
  have e1 : shl .u64 1 ((x : Nat) : Int) = ((1 <<< x : Nat) : Int) := shl_u (x := 1) (by rw [Nat.one_mul]; exact Nat.lt_of_lt_of_le (Nat.pow_lt_pow_right (by decide) hx8) (by decide)) (by omega)
  have e2 : shl .u64 1 ((y : Nat) : Int) = ((1 <<< y : Nat) : Int) := shl_u (x := 1) (by rw [Nat.one_mul]; exact Nat.lt_of_lt_of_le (Nat.pow_lt_pow_right (by decide) hy8) (by decide)) (by omega)
  have s1 : 1 <<< x < 2 ^ 62 := by rw [Nat.one_shiftLeft]; exact Nat.lt_of_lt_of_le (Nat.pow_lt_pow_right (by decide) hx8) (by decide)
  have s2 : 1 <<< y < 2 ^ 62 := by rw [Nat.one_shiftLeft]; exact Nat.lt_of_lt_of_le (Nat.pow_lt_pow_right (by decide) hy8) (by decide)
  have e3 : Go.bits .or .u64 ((1 <<< x : Nat) : Int) ((1 <<< y : Nat) : Int) = ((two x y : Nat) : Int) := or_u s1 s2
  have e4 : Go.bits .and .u64 (m : Int) ((two x y : Nat) : Int) = ((m &&& two x y : Nat) : Int) := and_u (by omega) (by omega)
  have e5 : Go.bits .or .u64 (m : Int) ((two x y : Nat) : Int) = ((m ||| two x y : Nat) : Int) := or_u (by omega) (by omega)
  rw [e1, e2, e3, e4, e5, bit_i (by omega) (by omega), wrap_succ i (by omega)] at start
  have keep : ∀ (hE : st.testBit i = true → m.testBit x = m.testBit y), b = false → m = m0 ∧ Even sw st m0 (i + 1) := by
   intro hE hb
   obtain ⟨rfl, he⟩ := hf hb
   refine ⟨rfl, fun j hj hji hjb => ?_⟩
   by_cases h : j < i
   ·
    exact he j hj h hjb
   ·
    obtain rfl : j = i := by omega
    rw [hx, hy, Int.toNat_natCast, Int.toNat_natCast]
    exact hE hjb
  by_cases hbit : st.testBit i = true
  ·
   rw [if_pos hbit] at start
   by_cases hz : m &&& two x y = 0
   ·
    have hz2 := and_two_zero.1 hz
    obtain ⟨r, h1, h2⟩ := ih (i + 1) m b (by omega) hs (keep fun _ => by rw [hz2.1, hz2.2]) ht
    exact ⟨r, start r (ev_neg (by decide) (ev_pos (by omega) (ev_pos (by omega) (ev_pos (by omega) h1)))), h2⟩
   ·
    by_cases ha : m &&& two x y = two x y
    ·
     have ha2 := and_two_all.1 ha
     obtain ⟨r, h1, h2⟩ := ih (i + 1) m b (by omega) hs (keep fun _ => by rw [ha2.1, ha2.2]) ht
     exact ⟨r, start r (ev_neg (by decide) (ev_pos (by omega) (ev_pos (by omega) (ev_neg (by omega) (ev_pos (by omega) h1))))), h2⟩
    ·
     have hor : m.testBit x = true ∨ m.testBit y = true := by
      by_cases h1 : m.testBit x = true
      ·
       exact .inl h1
      ·
       by_cases h2 : m.testBit y = true
       ·
        exact .inr h2
       ·
        exact absurd (and_two_zero.2 ⟨by simpa using h1, by simpa using h2⟩) hz
     have hgt := or_gt ha
     have hm0 : m0 < m ||| two x y := by
      cases b with
      | true => have := ht rfl; omega
      | false => have := (hf rfl).1; omega
     obtain ⟨r, h1, h2⟩ := ih (i + 1) (m ||| two x y) true (by omega) (or_two_sound hs hlt hbit hx hy hx8 hy8 hor) (fun h => by cases h) (fun _ => hm0)
     exact ⟨r, start r (ev_neg (by decide) (ev_pos (by omega) (ev_pos (by omega) (ev_neg (by omega) (ev_neg (by omega) h1))))), h2⟩
  ·
   rw [if_neg hbit] at start
   obtain ⟨r, h1, h2⟩ := ih (i + 1) m b (by omega) hs (keep fun h => absurd h hbit) ht
   exact ⟨r, start r (ev_pos rfl h1), h2⟩
theorem group_l0 (n : Int) (sw : List S69) (fe : List S71) (hsw : SwOk 8 sw) (hlen : sw.length ≤ 20) (st a : Nat) (hst : st < 2 ^ 20) :
  ∀ (q m : Nat), 256 - m ≤ q → Sound sw st a m → ∃ r, Ev (fun k => feed_grid_group.l0 k (st : Int) (m : Int) true n sw fe) ((r : Nat) : Int) ∧ Group sw st a r := by
 intro q
 induction q with
 | zero => intro m hq hs; have := hs.1; omega
 | succ q ih =>
  intro m hq hs
  have hm := hs.1
  obtain ⟨r, h1, h2⟩ := group_l1 n sw fe hsw hlen st a hst m (fun m' hm' hs' => ih m' (by omega) hs') sw.length 0 m false (by omega) hs (fun _ => ⟨rfl, fun j hj hji => by omega⟩) (fun h => by cases h)
  refine ⟨r, ?_, h2⟩
  refine Ev.step (fun k => by rw [feed_grid_group.l0]) ?_
  exact ev_pos rfl h1
theorem group_ev (n : Int) (sw : List S69) (fe : List S71) (hsw : SwOk 8 sw) (hlen : sw.length ≤ 20) (st a : Nat) (hst : st < 2 ^ 20) (ha : a < 8) :
  ∃ r : Nat, Ev (fun k => feed_grid_group.f k n sw fe (st : Int) (a : Int)) ((r : Nat) : Int) ∧ r < 256 ∧ ∀ j, r.testBit j = true ↔ Conn sw st a j := by
 have e1 : shl .u64 1 ((a : Nat) : Int) = ((1 <<< a : Nat) : Int) := shl_u (x := 1) (by rw [Nat.one_mul]; exact Nat.lt_of_lt_of_le (Nat.pow_lt_pow_right (by decide) ha) (by decide)) (by omega)
 have hs : Sound sw st a (1 <<< a) := by
  refine ⟨by rw [Nat.one_shiftLeft]; exact Nat.lt_of_lt_of_le (Nat.pow_lt_pow_right (by decide) ha) (by decide), by rw [Nat.one_shiftLeft, Nat.testBit_two_pow]; simp, fun j hj => ?_⟩
  rw [Nat.one_shiftLeft, Nat.testBit_two_pow] at hj
  obtain rfl : a = j := by simpa using hj
  exact Conn.refl
 obtain ⟨r, h1, h2⟩ := group_l0 n sw fe hsw hlen st a hst 256 (1 <<< a) (Nat.sub_le _ _) hs
 refine ⟨r, ?_, h2.1.1, fun j => ⟨h2.1.2.2 j, fun h => conn_of_even h2.1 h2.2 h⟩⟩
 unfold feed_grid_group.f
 rw [e1]
 exact ev_pos (by omega) h1
end Go.Proofs.YtoilhnmdemnknaaDoor.Plain

/- With which phases the sections are fed, as the program reckons them. -/
namespace Go.Proofs.YtoilhnmdemnknaaDoor.Plain
set_option linter.unusedVariables false
set_option linter.unusedSimpArgs false
open Go.RowKit Go.Proofs.YtoilhnmdemnknaaDoor.XFeed Go.Proofs.YtoilhnmdemnknaaDoorW.PrintWords Go.Proofs.YtoilhnmdemnknaaDoorW.PrintLast Go.Proofs.YtoilhnmdemnknaaDoorW.PrintMore

def FeOk (n : Nat) (fe : List S71) : Prop := ∀ f ∈ fe, 0 ≤ f.f0 ∧ f.f0 < n ∧ 1 ≤ f.f1 ∧ f.f1 ≤ 3
def Mask (sw : List S69) (st : Nat) (fs : List S71) (i m : Nat) : Prop :=
 m < 16 ∧ ∀ p, m.testBit p = true ↔ ∃ f ∈ fs, f.f1 = (p : Int) ∧ Conn sw st f.f0.toNat i
theorem rd_S71 (xs : List S71) (i : Nat) (h : i < xs.length) : rd_T71 xs (i : Int) = xs[i] := by simp [rd_T71, List.getD_eq_getElem?_getD, h]
theorem rd_set (l : List Int) (i j : Nat) (v : Int) (hi : i < l.length) : rd (l.set i v) (j : Int) = if j = i then v else rd l (j : Int) := by
 simp only [rd, Int.toNat_natCast, List.getD_eq_getElem?_getD, List.getElem?_set]
 by_cases h : i = j
 ·
  subst h; simp [hi]
 ·
  rw [if_neg h, if_neg (fun e => h e.symm)]
theorem mask_no {sw : List S69} {st : Nat} {fs : List S71} {f : S71} {i m : Nat} (h : Mask sw st fs i m) (hn : ¬ Conn sw st f.f0.toNat i) : Mask sw st (fs ++ [f]) i m := by
 refine ⟨h.1, fun p => ?_⟩
 rw [h.2 p]
 constructor
 ·
  rintro ⟨x, hx, h1, h2⟩; exact ⟨x, List.mem_append_left _ hx, h1, h2⟩
 ·
  rintro ⟨x, hx, h1, h2⟩
  rcases List.mem_append.1 hx with hx | hx
  ·
   exact ⟨x, hx, h1, h2⟩
  ·
   obtain rfl : x = f := by simpa using hx
   exact absurd h2 hn
theorem mask_yes {sw : List S69} {st : Nat} {fs : List S71} {f : S71} {i m q : Nat} (h : Mask sw st fs i m) (hc : Conn sw st f.f0.toNat i) (hq : f.f1 = (q : Int)) (hq4 : q < 4) : Mask sw st (fs ++ [f]) i (m ||| 1 <<< q) := by
 have hlt : m ||| 1 <<< q < 2 ^ 4 := Nat.or_lt_two_pow h.1 (by rw [Nat.one_shiftLeft]; exact Nat.pow_lt_pow_right (by decide) hq4)
 refine ⟨hlt, fun p => ?_⟩
 rw [Nat.testBit_or, Bool.or_eq_true, h.2 p, Nat.one_shiftLeft, Nat.testBit_two_pow, decide_eq_true_eq]
 constructor
 ·
  rintro (⟨x, hx, h1, h2⟩ | rfl)
  ·
   exact ⟨x, List.mem_append_left _ hx, h1, h2⟩
  ·
   exact ⟨f, by simp, hq, hc⟩
 ·
  rintro ⟨x, hx, h1, h2⟩
  rcases List.mem_append.1 hx with hx | hx
  ·
   exact .inl ⟨x, hx, h1, h2⟩
  ·
   obtain rfl : x = f := by simpa using hx
   right; omega
def Fed (sw : List S69) (st n : Nat) (fs : List S71) (l : List Int) : Prop := l.length = n ∧ ∀ i, i < n → ∃ m, rd l (i : Int) = ((m : Nat) : Int) ∧ Mask sw st fs i m
theorem fed_l1 (n : Nat) (hn : n ≤ 8) (sw : List S69) (fe : List S71) (st : Nat) (f : S71) (hf : 1 ≤ f.f1 ∧ f.f1 ≤ 3) (fs : List S71) (q : Nat) (g : Nat) (hg : g < 256) (hgc : ∀ j, g.testBit j = true ↔ Conn sw st f.f0.toNat j)
  (hend : ∀ l', Fed sw st n (fs ++ [f]) l' → ∃ r, Ev (fun k => feed_grid_fed.l0 k (st : Int) l' fe (fe.length : Int) (wrap64 ((q : Int) + 1)) (n : Int) sw fe) r ∧ Fed sw st n fe r) :
  ∀ (d i : Nat) (l : List Int), i + d = n → l.length = n → (∀ j, j < n → ∃ m, rd l (j : Int) = ((m : Nat) : Int) ∧ Mask sw st (if j < i then fs ++ [f] else fs) j m) →
  ∃ r, Ev (fun k => feed_grid_fed.l1 k (st : Int) l (g : Int) fe (fe.length : Int) (q : Int) (n : Int) (i : Int) (n : Int) sw fe f.f0 f.f1) r ∧ Fed sw st n fe r := by
 intro d
 induction d with
 | zero =>
  intro i l hi hl hm
  obtain rfl : i = n := by omega
  obtain ⟨r, h1, h2⟩ := hend l ⟨hl, fun j hj => by
   obtain ⟨m, e, h⟩ := hm j hj
   rw [if_pos hj] at h
   exact ⟨m, e, h⟩⟩
  refine ⟨r, ?_, h2⟩
  refine Ev.step (fun k => by rw [feed_grid_fed.l1]) ?_
  exact ev_neg (by omega) h1
 | succ d ih =>
  intro i l hi hl hm
  obtain ⟨m, e, h⟩ := hm i (by omega)
  rw [if_neg (by omega)] at h
  have hm16 := h.1
  have hb := bit_u (x := g) (i := i) (by omega) (by omega)
  by_cases hc : g.testBit i = true
  ·
   have hcc := (hgc i).1 hc
   rw [if_pos hc] at hb
   obtain ⟨p, hp⟩ := Int.eq_ofNat_of_zero_le (show 0 ≤ f.f1 by omega)
   have s1 : 1 <<< p < 2 ^ 62 := by rw [Nat.one_shiftLeft]; exact Nat.lt_of_lt_of_le (Nat.pow_lt_pow_right (by decide) (show p < 4 by omega)) (by decide)
   have e1 : shl .u64 1 ((p : Nat) : Int) = ((1 <<< p : Nat) : Int) := shl_u (x := 1) (by rw [Nat.one_mul]; exact Nat.lt_of_lt_of_le (Nat.pow_lt_pow_right (by decide) (show p < 4 by omega)) (by decide)) (by omega)
   have e2 : Go.bits .or .u64 (m : Int) ((1 <<< p : Nat) : Int) = ((m ||| 1 <<< p : Nat) : Int) := or_u (by omega) s1
   obtain ⟨r, h1, h2⟩ := ih (i + 1) (l.set i ((m ||| 1 <<< p : Nat) : Int)) (by omega) (by rw [List.length_set]; exact hl) (fun j hj => by
    rw [rd_set _ _ _ _ (by omega)]
    by_cases hji : j = i
    ·
     subst hji
     rw [if_pos rfl, if_pos (by omega)]
     exact ⟨_, rfl, mask_yes h hcc hp (by omega)⟩
    ·
     rw [if_neg hji]
     obtain ⟨m', e', h'⟩ := hm j hj
     refine ⟨m', e', ?_⟩
     by_cases hlt : j < i
     ·
      rw [if_pos hlt] at h'; rw [if_pos (by omega)]; exact h'
     ·
      rw [if_neg hlt] at h'; rw [if_neg (by omega)]; exact h')
   refine ⟨r, ?_, h2⟩
   refine Ev.step (fun k => by rw [feed_grid_fed.l1]) ?_
   rw [hb, e, hp, e1, e2, wrap_succ i (by omega), Int.toNat_natCast]
   rw [hp] at h1
   exact ev_pos (by omega) (ev_pos (by omega) (ev_pos rfl (ev_pos (by omega) (ev_pos (by omega) h1))))
  ·
   rw [if_neg hc] at hb
   obtain ⟨r, h1, h2⟩ := ih (i + 1) l (by omega) hl (fun j hj => by
    obtain ⟨m', e', h'⟩ := hm j hj
    refine ⟨m', e', ?_⟩
    by_cases hji : j = i
    ·
     subst hji
     rw [if_neg (by omega)] at h'
     rw [if_pos (by omega)]
     exact mask_no h' (fun hx => hc ((hgc j).2 hx))
    ·
     by_cases hlt : j < i
     ·
      rw [if_pos hlt] at h'; rw [if_pos (by omega)]; exact h'
     ·
      rw [if_neg hlt] at h'; rw [if_neg (by omega)]; exact h')
   refine ⟨r, ?_, h2⟩
   refine Ev.step (fun k => by rw [feed_grid_fed.l1]) ?_
   rw [hb, wrap_succ i (by omega)]
   exact ev_pos (by omega) (ev_pos (by omega) (ev_neg (by decide) h1))
theorem fed_l0 (n : Nat) (hn : n ≤ 8) (sw : List S69) (hsw : SwOk 8 sw) (hlen : sw.length ≤ 20) (fe : List S71) (hfe : FeOk n fe) (hfl : fe.length ≤ 20) (st : Nat) (hst : st < 2 ^ 20) :
  ∀ (d q : Nat) (l : List Int), q + d = fe.length → Fed sw st n (fe.take q) l → ∃ r, Ev (fun k => feed_grid_fed.l0 k (st : Int) l fe (fe.length : Int) (q : Int) (n : Int) sw fe) r ∧ Fed sw st n fe r := by
 intro d
 induction d with
 | zero =>
  intro q l hq hl
  obtain rfl : q = fe.length := by omega
  rw [List.take_length] at hl
  refine ⟨l, ?_, hl⟩
  refine Ev.step (fun k => by rw [feed_grid_fed.l0]) ?_
  exact ev_neg (by omega) (Ev.now _)
 | succ d ih =>
  intro q l hq hl
  have hlt : q < fe.length := by omega
  obtain ⟨f0, f1, f2, f3⟩ := hfe fe[q] (List.getElem_mem hlt)
  have htk : fe.take (q + 1) = fe.take q ++ [fe[q]] := List.take_succ_eq_append_getElem hlt
  obtain ⟨g, hg1, hg2, hg3⟩ := group_ev (n : Int) sw fe hsw hlen st fe[q].f0.toNat hst (by omega)
  rw [Int.toNat_of_nonneg f0] at hg1
  obtain ⟨r, h1, h2⟩ := fed_l1 n hn sw fe st fe[q] ⟨f2, f3⟩ (fe.take q) q g hg2 hg3 (fun l' hl' => by
   rw [wrap_succ q (by omega)]
   rw [← htk] at hl'
   exact ih (q + 1) l' (by omega) hl') n 0 l (by omega) hl.1 (fun j hj => by rw [if_neg (by omega)]; exact hl.2 j hj)
  refine ⟨r, ?_, h2⟩
  refine Ev.step (fun k => by rw [feed_grid_fed.l0]) ?_
  rw [rd_S71 fe q hlt]
  refine ev_pos (by omega) (ev_pos (by omega) (ev_pos (by omega) (Ev.bind hg1 ?_)))
  rw [hl.1]
  exact h1
theorem fed_ev (n : Nat) (hn : n ≤ 8) (sw : List S69) (hsw : SwOk 8 sw) (hlen : sw.length ≤ 20) (fe : List S71) (hfe : FeOk n fe) (hfl : fe.length ≤ 20) (st : Nat) (hst : st < 2 ^ 20) :
  ∃ r, Ev (fun k => feed_grid_fed.f k (n : Int) sw fe (st : Int)) r ∧ Fed sw st n fe r := by
 obtain ⟨r, h1, h2⟩ := fed_l0 n hn sw hsw hlen fe hfe hfl st hst fe.length 0 (List.replicate n 0) (by omega) ⟨List.length_replicate, fun i hi => ⟨0, by simp [rd, hi], by decide, fun p => by simp⟩⟩
 refine ⟨r, ?_, h2⟩
 unfold feed_grid_fed.f
 rw [Int.toNat_natCast]
 exact ev_pos (by omega) (ev_pos (by omega) h1)
end Go.Proofs.YtoilhnmdemnknaaDoor.Plain

/- Which grids are as described: program and document say the same. -/
namespace Go.Proofs.YtoilhnmdemnknaaDoor.Plain
set_option linter.unusedVariables false
set_option linter.unusedSimpArgs false
open Go.RowKit Go.Proofs.YtoilhnmdemnknaaDoor.XFeed Go.Proofs.YtoilhnmdemnknaaDoorW.PrintWords Go.Proofs.YtoilhnmdemnknaaDoorW.PrintLast Go.Proofs.YtoilhnmdemnknaaDoorW.PrintMore

def SwIs (N : Int) (s : S69) : Prop := 0 ≤ s.f0 ∧ s.f0 < N ∧ 0 ≤ s.f1 ∧ s.f1 < N ∧ s.f0 ≠ s.f1
def FeIs (N : Int) (f : S71) : Prop := 0 ≤ f.f0 ∧ f.f0 < N ∧ 1 ≤ f.f1 ∧ f.f1 ≤ 3
def GridOk (N : Int) (sw : List S69) (fe : List S71) : Prop :=
 1 ≤ N ∧ N ≤ 8 ∧ sw.length ≤ 10 ∧ fe.length ≤ 6 ∧ (∀ s ∈ sw, SwIs N s) ∧ ∀ f ∈ fe, FeIs N f
theorem bad1_iff {N : Int} (h1 : 1 ≤ N) (h2 : N ≤ 8) (s : S69) : feed_Valid.bad1 N s = true ↔ ¬ SwIs N s := by
 unfold feed_Valid.bad1 SwIs
 rw [wrap_id (x := N - 1) (by omega) (by omega)]
 simp only [Bool.or_eq_true, Bool.not_eq_true', Bool.and_eq_false_iff, decide_eq_false_iff_not, beq_iff_eq]
 omega
theorem bad2_iff {N : Int} (h1 : 1 ≤ N) (h2 : N ≤ 8) (f : S71) : feed_Valid.bad2 N f = true ↔ ¬ FeIs N f := by
 unfold feed_Valid.bad2 FeIs
 rw [wrap_id (x := N - 1) (by omega) (by omega)]
 simp only [Bool.or_eq_true, Bool.not_eq_true', Bool.and_eq_false_iff, decide_eq_false_iff_not]
 omega
open Classical in
theorem valid_f (N : Int) (sw : List S69) (fe : List S71) : feed_Valid.f N sw fe = some (decide (GridOk N sw fe)) := by
 unfold feed_Valid.f
 congr 1
 rw [Bool.eq_iff_iff, decide_eq_true_eq]
 simp only [Bool.and_eq_true, decide_eq_true_eq, Bool.not_eq_true', List.any_eq_false]
 unfold GridOk
 constructor
 ·
  rintro ⟨⟨h1, h2⟩, h3, h4, h5, h6⟩
  refine ⟨h1, h2, by omega, by omega, fun s hs => ?_, fun f hf => ?_⟩
  ·
   have := h5 s hs
   rw [bad1_iff h1 h2] at this
   exact Classical.not_not.1 this
  ·
   have := h6 f hf
   rw [bad2_iff h1 h2] at this
   exact Classical.not_not.1 this
 ·
  rintro ⟨h1, h2, h3, h4, h5, h6⟩
  refine ⟨⟨h1, h2⟩, by omega, by omega, fun s hs => ?_, fun f hf => ?_⟩
  ·
   rw [bad1_iff h1 h2]; exact fun h => h (h5 s hs)
  ·
   rw [bad2_iff h1 h2]; exact fun h => h (h6 f hf)
theorem section_f (N : Int) (sw : List S69) (fe : List S71) (x : Int) : dropperref05_section.f N sw fe x = some (decide (0 ≤ x ∧ x < N)) := by
 unfold dropperref05_section.f
 by_cases h : x ≥ 0
 ·
  rw [if_pos h]; congr 1; rw [decide_eq_decide]; omega
 ·
  rw [if_neg h]; congr 1; symm; rw [decide_eq_false_iff_not]; omega
open Classical in
theorem rvalid_l1 (N : Int) (sw : List S69) (fe : List S71) (hl : fe.length ≤ 6) : ∀ (d i : Nat), i + d = fe.length → (∀ j (h : j < fe.length), j < i → FeIs N fe[j]) →
  Ev (fun k => dropperref05_Valid.l1 k (i : Int) N sw fe) (decide (∀ f ∈ fe, FeIs N f)) := by
 intro d
 induction d with
 | zero =>
  intro i hi hb
  refine Ev.step (fun k => by rw [dropperref05_Valid.l1]) ?_
  refine ev_neg (by omega) (ev_const ?_)
  rw [decide_eq_true]
  intro f hf
  obtain ⟨j, hj, rfl⟩ := List.mem_iff_getElem.1 hf
  exact hb j hj (by omega)
 | succ d ih =>
  intro i hi hb
  have hlt : i < fe.length := by omega
  have no : ¬ FeIs N fe[i] → (false : Bool) = decide (∀ f ∈ fe, FeIs N f) := fun h => by
   symm; rw [decide_eq_false_iff_not]; exact fun h2 => h (h2 _ (List.getElem_mem hlt))
  refine Ev.step (fun k => by rw [dropperref05_Valid.l1]) ?_
  rw [rd_S71 fe i hlt, section_f, wrap_succ i (by omega)]
  refine ev_pos (by omega) (ev_pos (by omega) (ev_some ?_))
  by_cases h0 : 0 ≤ fe[i].f0 ∧ fe[i].f0 < N
  ·
   refine ev_pos (decide_eq_true h0) ?_
   by_cases h1 : fe[i].f1 < 1
   ·
    exact ev_pos h1 (ev_const (congrArg some (no (fun h => by unfold FeIs at h; omega))))
   refine ev_neg h1 ?_
   by_cases h2 : fe[i].f1 > 3
   ·
    exact ev_pos h2 (ev_const (congrArg some (no (fun h => by unfold FeIs at h; omega))))
   refine ev_neg h2 (ih (i + 1) (by omega) (fun j hj hji => ?_))
   by_cases h : j < i
   ·
    exact hb j hj h
   ·
    obtain rfl : j = i := by omega
    unfold FeIs; omega
  ·
   exact ev_neg (by simpa using h0) (ev_const (congrArg some (no (fun h => h0 ⟨h.1, h.2.1⟩))))
open Classical in
theorem rvalid_l0 (N : Int) (sw : List S69) (fe : List S71) (hl : fe.length ≤ 6) (hs : sw.length ≤ 10) : ∀ (d i : Nat), i + d = sw.length → (∀ j (h : j < sw.length), j < i → SwIs N sw[j]) →
  Ev (fun k => dropperref05_Valid.l0 k (i : Int) N sw fe) (decide ((∀ s ∈ sw, SwIs N s) ∧ ∀ f ∈ fe, FeIs N f)) := by
 intro d
 induction d with
 | zero =>
  intro i hi hb
  have hall : ∀ s ∈ sw, SwIs N s := by
   intro f hf
   obtain ⟨j, hj, rfl⟩ := List.mem_iff_getElem.1 hf
   exact hb j hj (by omega)
  have e : decide ((∀ s ∈ sw, SwIs N s) ∧ ∀ f ∈ fe, FeIs N f) = decide (∀ f ∈ fe, FeIs N f) := by
   rw [decide_eq_decide]; exact ⟨fun h => h.2, fun h => ⟨hall, h⟩⟩
  rw [e]
  refine Ev.step (fun k => by rw [dropperref05_Valid.l0]) ?_
  exact ev_neg (by omega) (rvalid_l1 N sw fe hl fe.length 0 (by omega) (fun j h hj => by omega))
 | succ d ih =>
  intro i hi hb
  have hlt : i < sw.length := by omega
  have no : ¬ SwIs N sw[i] → (false : Bool) = decide ((∀ s ∈ sw, SwIs N s) ∧ ∀ f ∈ fe, FeIs N f) := fun h => by
   symm; rw [decide_eq_false_iff_not]; exact fun h2 => h (h2.1 _ (List.getElem_mem hlt))
  refine Ev.step (fun k => by rw [dropperref05_Valid.l0]) ?_
  rw [rd_S69 sw i hlt, section_f, section_f, wrap_succ i (by omega)]
  refine ev_pos (by omega) (ev_pos (by omega) (ev_some ?_))
  by_cases h0 : 0 ≤ sw[i].f0 ∧ sw[i].f0 < N
  ·
   refine ev_pos (decide_eq_true h0) (ev_some ?_)
   by_cases h1 : 0 ≤ sw[i].f1 ∧ sw[i].f1 < N
   ·
    refine ev_pos (decide_eq_true h1) ?_
    by_cases h2 : sw[i].f0 = sw[i].f1
    ·
     exact ev_pos h2 (ev_const (congrArg some (no (fun h => h.2.2.2.2 h2))))
    refine ev_neg h2 (ih (i + 1) (by omega) (fun j hj hji => ?_))
    by_cases h : j < i
    ·
     exact hb j hj h
    ·
     obtain rfl : j = i := by omega
     exact ⟨h0.1, h0.2, h1.1, h1.2, h2⟩
   ·
    exact ev_neg (by simpa using h1) (ev_const (congrArg some (no (fun h => h1 ⟨h.2.2.1, h.2.2.2.1⟩))))
  ·
   exact ev_neg (by simpa using h0) (ev_const (congrArg some (no (fun h => h0 ⟨h.1, h.2.1⟩))))
open Classical in
theorem rvalid_ev (N : Int) (sw : List S69) (fe : List S71) : Ev (fun k => dropperref05_Valid.f k N sw fe) (decide (GridOk N sw fe)) := by
 have no : ¬ GridOk N sw fe → Ev (fun k => dropperref05_Valid.j0 k true N sw fe) (decide (GridOk N sw fe)) := fun h => by
  rw [decide_eq_false h]
  refine Ev.step (fun k => by rw [dropperref05_Valid.j0]) ?_
  exact ev_pos rfl (Ev.now _)
 unfold dropperref05_Valid.f
 by_cases h1 : N < 1
 ·
  exact ev_pos h1 (no (fun h => by have := h.1; omega))
 refine ev_neg h1 ?_
 by_cases h2 : N > 8
 ·
  exact ev_pos h2 (no (fun h => by have := h.2.1; omega))
 refine ev_neg h2 ?_
 by_cases h3 : (sw.length : Int) > 10
 ·
  exact ev_pos h3 (no (fun h => by have := h.2.2.1; omega))
 refine ev_neg h3 ?_
 by_cases h4 : (fe.length : Int) > 6
 ·
  rw [decide_eq_true h4]
  exact no (fun h => by have := h.2.2.2.1; omega)
 rw [decide_eq_false h4]
 refine Ev.step (fun k => by rw [dropperref05_Valid.j0]) (ev_neg (by simp) ?_)
 have e : decide (GridOk N sw fe) = decide ((∀ s ∈ sw, SwIs N s) ∧ ∀ f ∈ fe, FeIs N f) := by
  rw [decide_eq_decide]
  exact ⟨fun h => h.2.2.2.2, fun h => ⟨by omega, by omega, by omega, by omega, h⟩⟩
 rw [e]
 exact rvalid_l0 N sw fe (by omega) (by omega) sw.length 0 (by omega) (fun j h hj => by omega)
end Go.Proofs.YtoilhnmdemnknaaDoor.Plain

/- What is live, and which states are right, as the program reckons them. -/
namespace Go.Proofs.YtoilhnmdemnknaaDoor.Plain
set_option linter.unusedVariables false
set_option linter.unusedSimpArgs false
open Go.RowKit Go.Proofs.YtoilhnmdemnknaaDoor.XFeed Go.Proofs.YtoilhnmdemnknaaDoorW.PrintWords Go.Proofs.YtoilhnmdemnknaaDoorW.PrintLast Go.Proofs.YtoilhnmdemnknaaDoorW.PrintMore

def cn (m : Nat) : Nat := ((List.range 4).filter m.testBit).length
def lv (m : Nat) : Int := if cn m = 0 then 0 else if cn m = 1 then (if m = 1 then 0 else if m = 2 then 1 else if m = 4 then 2 else 3) else -1
def Mark (sw : List S69) (st n : Nat) (fe : List S71) (l : List Int) : Prop := l.length = n ∧ ∀ i, i < n → ∃ m, rd l (i : Int) = lv m ∧ Mask sw st fe i m
theorem mask_unique {sw : List S69} {st : Nat} {fe : List S71} {i m m' : Nat} (h : Mask sw st fe i m) (h' : Mask sw st fe i m') : m = m' := by
 apply Nat.eq_of_testBit_eq
 intro p
 rw [Bool.eq_iff_iff, h.2, h'.2]
end Go.Proofs.YtoilhnmdemnknaaDoor.Plain

/- Live, Right, States of a grid as described. -/
namespace Go.Proofs.YtoilhnmdemnknaaDoor.Plain
set_option linter.unusedVariables false
set_option linter.unusedSimpArgs false
open Go.RowKit Go.Proofs.YtoilhnmdemnknaaDoor.XFeed Go.Proofs.YtoilhnmdemnknaaDoorW.PrintWords Go.Proofs.YtoilhnmdemnknaaDoorW.PrintLast Go.Proofs.YtoilhnmdemnknaaDoorW.PrintMore

theorem GridOk.sw8 {n : Nat} {sw : List S69} {fe : List S71} (h : GridOk (n : Int) sw fe) : SwOk 8 sw := fun s hs => by
 have := h.2.2.2.2.1 s hs
 have := h.2.1
 unfold SwIs at *
 omega
theorem GridOk.fe {n : Nat} {sw : List S69} {fe : List S71} (h : GridOk (n : Int) sw fe) : FeOk n fe := fun f hf => h.2.2.2.2.2 f hf
theorem all_f (N : Int) (sw : List S69) (fe : List S71) (h : sw.length ≤ 10) : feed_grid_all.f N sw fe = some ((2 ^ sw.length : Nat) : Int) := by
 unfold feed_grid_all.f
 have hp : 2 ^ sw.length ≤ 2 ^ 10 := Nat.pow_le_pow_right (by decide) h
 rw [show (1 : Int) = ((1 : Nat) : Int) from rfl, shl_i (by omega) (by omega), Nat.one_shiftLeft]
theorem within_f (a b c : Int) : feed_within.f a b c = some (decide (a ≤ b ∧ b ≤ c)) := by
 unfold feed_within.f
 by_cases h : a ≤ b
 ·
  rw [if_pos h]; congr 1; rw [decide_eq_decide]; omega
 ·
  rw [if_neg h]; congr 1; symm; rw [decide_eq_false_iff_not]; omega
open Classical in
theorem open_f (N : Int) (sw : List S69) (fe : List S71) (st : Int) :
  feed_open.f N sw fe st = some (N, if GridOk N sw fe then (if 0 ≤ st ∧ st < ((2 ^ sw.length : Nat) : Int) then 0 else 51) else 50) := by
 unfold feed_open.f
 rw [valid_f]
 by_cases h : GridOk N sw fe
 ·
  have hl := h.2.2.1
  have hp : 2 ^ sw.length ≤ 2 ^ 10 := Nat.pow_le_pow_right (by decide) hl
  rw [decide_eq_true h, if_pos h]
  simp only [Option.bind_some, if_true]
  rw [all_f N sw fe hl]
  simp only [Option.bind_some]
  generalize 2 ^ sw.length = P at *
  rw [wrap_id (by omega) (by omega), within_f]
  simp only [Option.bind_some]
  by_cases h2 : 0 ≤ st ∧ st < (P : Int)
  ·
   rw [if_pos (decide_eq_true (by omega)), if_pos h2]
  ·
   rw [if_neg (by simp only [decide_eq_true_eq]; omega), if_neg h2]
 ·
  rw [decide_eq_false h, if_neg h]; rfl
end Go.Proofs.YtoilhnmdemnknaaDoor.Plain

/- One more closed switch never takes anything away. -/
namespace Go.Proofs.YtoilhnmdemnknaaDoor.Plain
set_option linter.unusedVariables false
set_option linter.unusedSimpArgs false
open Go.RowKit Go.Proofs.YtoilhnmdemnknaaDoor.XFeed Go.Proofs.YtoilhnmdemnknaaDoorW.PrintWords Go.Proofs.YtoilhnmdemnknaaDoorW.PrintLast Go.Proofs.YtoilhnmdemnknaaDoorW.PrintMore

theorem mask_zero {sw : List S69} {st n : Nat} {fe : List S71} (hfe : FeOk n fe) {i m : Nat} (h : Mask sw st fe i m) : m.testBit 0 = false := by
 rw [Bool.eq_false_iff]
 intro hb
 obtain ⟨f, hf, e, _⟩ := (h.2 0).1 hb
 have := hfe f hf
 omega
end Go.Proofs.YtoilhnmdemnknaaDoor.Plain

/- What the document's answer reckons: from, live, right, States; and that it is what the program reckons. -/
namespace Go.Proofs.YtoilhnmdemnknaaDoor.Plain
set_option linter.unusedVariables false
set_option linter.unusedSimpArgs false
open Go.RowKit Go.Proofs.YtoilhnmdemnknaaDoor.XFeed Go.Proofs.YtoilhnmdemnknaaDoorW.PrintWords Go.Proofs.YtoilhnmdemnknaaDoorW.PrintLast Go.Proofs.YtoilhnmdemnknaaDoorW.PrintMore

def bl (n m : Nat) : List Bool := (List.range n).map m.testBit
theorem bl_len (n m : Nat) : (bl n m).length = n := by simp [bl]
theorem rd_bl {n m i : Nat} (h : i < n) : rdOf false (bl n m) (i : Int) = m.testBit i := by simp [rdOf, bl, List.getD_eq_getElem?_getD, h]
theorem bl_set2 {n m x y : Nat} (hx : x < n) (hy : y < n) : ((bl n m).set x true).set y true = bl n (m ||| two x y) := by
 apply List.ext_getElem
 ·
  simp [bl]
 ·
  intro i h1 h2
  simp only [bl, List.getElem_set, List.getElem_map, List.getElem_range, Nat.testBit_or, two_bit]
  by_cases a : y = i
  ·
   subst a; simp
  ·
   by_cases b : x = i
   ·
    subst b; simp [a]
   ·
    rw [if_neg a, if_neg b, decide_eq_false (fun e => b e.symm), decide_eq_false (fun e => a e.symm)]; simp
theorem closed_f {st i : Nat} (hs : st < 2 ^ 62) (hi : i ≤ 64) : dropperref05_closed.f (st : Int) (i : Int) = some (st.testBit i) := by
 unfold dropperref05_closed.f
 rw [bit_i hs hi, if_pos (by omega)]
 cases st.testBit i <;> rfl
theorem from_l1 (n : Nat) (hn : n ≤ 8) (sw : List S69) (fe : List S71) (hsw : SwOk n sw) (hlen : sw.length ≤ 20) (st a : Nat) (hst : st < 2 ^ 20) (m0 : Nat)
  (IH : ∀ m, m0 < m → Sound sw st a m → ∃ r, Ev (fun k => dropperref05_from.l0 k (st : Int) (bl n m) true (n : Int) sw fe) (bl n r) ∧ Group sw st a r) :
  ∀ (d i m : Nat) (b : Bool), i + d = sw.length → Sound sw st a m → (b = false → m = m0 ∧ Even sw st m0 i) → (b = true → m0 < m) →
  ∃ r, Ev (fun k => dropperref05_from.l1 k (st : Int) (bl n m) b (i : Int) (n : Int) sw fe) (bl n r) ∧ Group sw st a r := by
 intro d
 induction d with
 | zero =>
  intro i m b hi hs hf ht
  obtain rfl : i = sw.length := by omega
  cases b with
  | true =>
   obtain ⟨r, h1, h2⟩ := IH m (ht rfl) hs
   refine ⟨r, ?_, h2⟩
   refine Ev.step (fun k => by rw [dropperref05_from.l1]) ?_
   exact ev_neg (by omega) h1
  | false =>
   obtain ⟨rfl, he⟩ := hf rfl
   refine ⟨m, ?_, hs, he⟩
   refine Ev.step (fun k => by rw [dropperref05_from.l1]) (ev_neg (by omega) ?_)
   refine Ev.step (fun k => by rw [dropperref05_from.l0]) ?_
   exact ev_neg (by simp) (Ev.now _)
 | succ d ih =>
  intro i m b hi hs hf ht
  have hlt : i < sw.length := by omega
  have hm := hs.1
  obtain ⟨x0, x1, y0, y1, hxy⟩ := hsw sw[i] (List.getElem_mem hlt)
  obtain ⟨x, hx⟩ := Int.eq_ofNat_of_zero_le x0
  obtain ⟨y, hy⟩ := Int.eq_ofNat_of_zero_le y0
  have hxn : x < n := by omega
  have hyn : y < n := by omega
  have hL := bl_len n m
  have keep : ∀ (hE : st.testBit i = true → m.testBit x = m.testBit y), b = false → m = m0 ∧ Even sw st m0 (i + 1) := by
   intro hE hb
   obtain ⟨rfl, he⟩ := hf hb
   refine ⟨rfl, fun j hj hji hjb => ?_⟩
   by_cases h : j < i
   ·
    exact he j hj h hjb
   ·
    obtain rfl : j = i := by omega
    rw [hx, hy, Int.toNat_natCast, Int.toNat_natCast]
    exact hE hjb
  have rx := rd_bl (m := m) hxn
  have ry := rd_bl (m := m) hyn
  by_cases hbit : st.testBit i = true
  ·
   by_cases hxy2 : m.testBit x = m.testBit y
   ·
    obtain ⟨r, h1, h2⟩ := ih (i + 1) m b (by omega) hs (keep fun _ => hxy2) ht
    refine ⟨r, ?_, h2⟩
    refine Ev.step (fun k => by rw [dropperref05_from.l1]) ?_
    rw [rd_S69 sw i hlt, hx, hy, closed_f (by omega) (by omega), hbit, rx, ry, wrap_succ i (by omega), hL]
    exact ev_pos (by omega) (ev_pos (by omega) (ev_some (ev_pos rfl (ev_pos (by omega) (ev_pos (by omega) (ev_pos (by omega) (ev_pos (by omega) (ev_neg (by simp [hxy2]) h1))))))))
   ·
    have hor : m.testBit x = true ∨ m.testBit y = true := by
     cases hq1 : m.testBit x <;> cases hq2 : m.testBit y <;> simp [hq1, hq2] at hxy2 ⊢
    have ha : m &&& two x y ≠ two x y := fun e => by
     have := and_two_all.1 e
     exact hxy2 (this.1.trans this.2.symm)
    have hgt := or_gt ha
    have hm0 : m0 < m ||| two x y := by
     cases b with
     | true => have := ht rfl; omega
     | false => have := (hf rfl).1; omega
    obtain ⟨r, h1, h2⟩ := ih (i + 1) (m ||| two x y) true (by omega) (or_two_sound hs hlt hbit hx hy (by omega) (by omega) hor) (fun h => by cases h) (fun _ => hm0)
    refine ⟨r, ?_, h2⟩
    refine Ev.step (fun k => by rw [dropperref05_from.l1]) ?_
    rw [rd_S69 sw i hlt, hx, hy, closed_f (by omega) (by omega), hbit, rx, ry, wrap_succ i (by omega), hL, Int.toNat_natCast, Int.toNat_natCast, bl_set2 hxn hyn]
    exact ev_pos (by omega) (ev_pos (by omega) (ev_some (ev_pos rfl (ev_pos (by omega) (ev_pos (by omega) (ev_pos (by omega) (ev_pos (by omega) (ev_pos (by simpa using hxy2) h1))))))))
  ·
   obtain ⟨r, h1, h2⟩ := ih (i + 1) m b (by omega) hs (keep fun h => absurd h hbit) ht
   refine ⟨r, ?_, h2⟩
   refine Ev.step (fun k => by rw [dropperref05_from.l1]) ?_
   rw [closed_f (by omega) (by omega), wrap_succ i (by omega)]
   exact ev_pos (by omega) (ev_pos (by omega) (ev_some (ev_neg hbit h1)))
theorem from_l0 (n : Nat) (hn : n ≤ 8) (sw : List S69) (fe : List S71) (hsw : SwOk n sw) (hlen : sw.length ≤ 20) (st a : Nat) (hst : st < 2 ^ 20) :
  ∀ (q m : Nat), 256 - m ≤ q → Sound sw st a m → ∃ r, Ev (fun k => dropperref05_from.l0 k (st : Int) (bl n m) true (n : Int) sw fe) (bl n r) ∧ Group sw st a r := by
 intro q
 induction q with
 | zero => intro m hq hs; have := hs.1; omega
 | succ q ih =>
  intro m hq hs
  have hm := hs.1
  obtain ⟨r, h1, h2⟩ := from_l1 n hn sw fe hsw hlen st a hst m (fun m' hm' hs' => ih m' (by omega) hs') sw.length 0 m false (by omega) hs (fun _ => ⟨rfl, fun j hj hji => by omega⟩) (fun h => by cases h)
  refine ⟨r, ?_, h2⟩
  refine Ev.step (fun k => by rw [dropperref05_from.l0]) ?_
  exact ev_pos rfl h1
theorem from_ev (n : Nat) (hn : n ≤ 8) (sw : List S69) (fe : List S71) (hsw : SwOk n sw) (hlen : sw.length ≤ 20) (st a : Nat) (hst : st < 2 ^ 20) (ha : a < n) :
  ∃ r : Nat, Ev (fun k => dropperref05_from.f k (n : Int) sw fe (st : Int) (a : Int)) (bl n r) ∧ r < 256 ∧ ∀ j, r.testBit j = true ↔ Conn sw st a j := by
 have hs : Sound sw st a (1 <<< a) := by
  refine ⟨by rw [Nat.one_shiftLeft]; exact Nat.lt_of_lt_of_le (Nat.pow_lt_pow_right (by decide) (show a < 8 by omega)) (by decide), by rw [Nat.one_shiftLeft, Nat.testBit_two_pow]; simp, fun j hj => ?_⟩
  rw [Nat.one_shiftLeft, Nat.testBit_two_pow] at hj
  obtain rfl : a = j := by simpa using hj
  exact Conn.refl
 obtain ⟨r, h1, h2⟩ := from_l0 n hn sw fe hsw hlen st a hst 256 (1 <<< a) (Nat.sub_le _ _) hs
 refine ⟨r, ?_, h2.1.1, fun j => ⟨h2.1.2.2 j, fun h => conn_of_even h2.1 h2.2 h⟩⟩
 unfold dropperref05_from.f
 have e : (List.replicate n false).set a true = bl n (1 <<< a) := by
  apply List.ext_getElem
  ·
   simp [bl]
  ·
   intro i h1 h2
   simp only [bl, List.getElem_set, List.getElem_map, List.getElem_range, List.getElem_replicate, Nat.one_shiftLeft, Nat.testBit_two_pow]
   by_cases h : a = i <;> simp [h]
 have hL : (List.replicate n false).length = n := List.length_replicate
 rw [Int.toNat_natCast, Int.toNat_natCast]
 refine ev_pos (by omega) (ev_pos (by omega) (ev_some ?_))
 refine ev_pos (by omega) (ev_pos (by rw [hL]; omega) ?_)
 rw [e]
 exact h1

theorem mask_new {sw : List S69} {st : Nat} {i : Nat} : Mask sw st [] i 0 := ⟨by decide, fun p => by simp⟩
theorem lv_or : ∀ m : Nat, m < 16 → ∀ q : Nat, q < 4 → m.testBit 0 = false → 1 ≤ q → lv (m ||| 1 <<< q) = if lv m = 0 then (q : Int) else if lv m = q then lv m else -1 := by decide +kernel
theorem FeOk.take {n : Nat} {fe : List S71} (h : FeOk n fe) (q : Nat) : FeOk n (fe.take q) := fun f hf => h f (List.mem_of_mem_take hf)
def MarkAt (sw : List S69) (st : Nat) (fs : List S71) (i : Nat) (v : Int) : Prop := ∃ m, v = lv m ∧ Mask sw st fs i m
theorem rlive_l1 (n : Nat) (hn : n ≤ 8) (sw : List S69) (fe : List S71) (hfe : FeOk n fe) (hfl : fe.length ≤ 20) (st : Nat) (q : Nat) (hq : q < fe.length) (g : Nat) (hg : g < 256) (hgc : ∀ j, g.testBit j = true ↔ Conn sw st fe[q].f0.toNat j)
  (hend : ∀ l', Mark sw st n (fe.take (q + 1)) l' → ∃ r, Ev (fun k => dropperref05_live.l0 k (st : Int) l' ((q + 1 : Nat) : Int) (n : Int) sw fe) r ∧ Mark sw st n fe r) :
  ∀ (d i : Nat) (l : List Int), i + d = n → l.length = n → (∀ j, j < n → MarkAt sw st (if j < i then fe.take (q + 1) else fe.take q) j (rd l (j : Int))) →
  ∃ r, Ev (fun k => dropperref05_live.l1 k (st : Int) l (q : Int) (bl n g) (i : Int) (n : Int) sw fe) r ∧ Mark sw st n fe r := by
 have htk : fe.take (q + 1) = fe.take q ++ [fe[q]] := List.take_succ_eq_append_getElem hq
 obtain ⟨f0, f1, f2, f3⟩ := hfe fe[q] (List.getElem_mem hq)
 obtain ⟨p, hp⟩ := Int.eq_ofNat_of_zero_le (show 0 ≤ fe[q].f1 by omega)
 have hL := bl_len n g
 intro d
 induction d with
 | zero =>
  intro i l hi hl hm
  obtain rfl : i = n := by omega
  obtain ⟨r, h1, h2⟩ := hend l ⟨hl, fun j hj => by
   have h := hm j hj
   rw [if_pos hj] at h
   exact h⟩
  refine ⟨r, ?_, h2⟩
  refine Ev.step (fun k => by rw [dropperref05_live.l1]) ?_
  rw [wrap_succ q (by omega)]
  exact ev_neg (by omega) h1
 | succ d ih =>
  intro i l hi hl hm
  obtain ⟨m, e, h⟩ := hm i (by omega)
  rw [if_neg (by omega)] at h
  have hm16 := h.1
  have hm0 := mask_zero (n := n) (hfe.take q) h
  have rg := rd_bl (m := g) (show i < n by omega)
  have next : ∀ l' : List Int, l'.length = n → (∀ j, j < n → j ≠ i → rd l' (j : Int) = rd l (j : Int)) → MarkAt sw st (fe.take (q + 1)) i (rd l' (i : Int)) →
    ∃ r, Ev (fun k => dropperref05_live.l1 k (st : Int) l' (q : Int) (bl n g) ((i + 1 : Nat) : Int) (n : Int) sw fe) r ∧ Mark sw st n fe r := by
   intro l' hl' hne hat
   refine ih (i + 1) l' (by omega) hl' (fun j hj => ?_)
   by_cases hji : j = i
   ·
    subst hji; rw [if_pos (by omega)]; exact hat
   ·
    rw [hne j hj hji]
    have h' := hm j hj
    by_cases hlt : j < i
    ·
     rw [if_pos hlt] at h'; rw [if_pos (by omega)]; exact h'
    ·
     rw [if_neg hlt] at h'; rw [if_neg (by omega)]; exact h'
  by_cases hc : g.testBit i = true
  ·
   have hcc := (hgc i).1 hc
   have hmy := mask_yes h hcc hp (by omega)
   rw [← htk] at hmy
   have hlo := lv_or m hm16 p (by omega) hm0 (by omega)
   by_cases h0 : rd l (i : Int) = 0
   ·
    obtain ⟨r, h1, h2⟩ := next (l.set i (p : Int)) (by rw [List.length_set]; exact hl) (fun j hj hji => by rw [rd_set _ _ _ _ (by omega), if_neg hji]) ⟨m ||| 1 <<< p, by rw [rd_set _ _ _ _ (by omega), if_pos rfl, hlo, if_pos (by rw [← e]; exact h0)], hmy⟩
    refine ⟨r, ?_, h2⟩
    refine Ev.step (fun k => by rw [dropperref05_live.l1]) ?_
    rw [rd_S71 fe q hq, hp, rg, hc, wrap_succ i (by omega), hL, hl, Int.toNat_natCast]
    exact ev_pos (by omega) (ev_pos (by omega) (ev_pos (by omega) (ev_pos (by omega) (ev_pos (by omega) (ev_pos rfl (ev_pos (by omega) (ev_pos h0 h1)))))))
   ·
    by_cases h1p : rd l (i : Int) = (p : Int)
    ·
     obtain ⟨r, h1, h2⟩ := next l hl (fun j hj hji => rfl) ⟨m ||| 1 <<< p, by rw [hlo, ← e, if_neg h0, if_pos h1p], hmy⟩
     refine ⟨r, ?_, h2⟩
     refine Ev.step (fun k => by rw [dropperref05_live.l1]) ?_
     rw [rd_S71 fe q hq, hp, rg, hc, wrap_succ i (by omega), hL, hl]
     exact ev_pos (by omega) (ev_pos (by omega) (ev_pos (by omega) (ev_pos (by omega) (ev_pos (by omega) (ev_pos rfl (ev_pos (by omega) (ev_neg h0 (ev_pos h1p h1))))))))
    ·
     obtain ⟨r, h1, h2⟩ := next (l.set i (-1)) (by rw [List.length_set]; exact hl) (fun j hj hji => by rw [rd_set _ _ _ _ (by omega), if_neg hji]) ⟨m ||| 1 <<< p, by rw [rd_set _ _ _ _ (by omega), if_pos rfl, hlo, ← e, if_neg h0, if_neg h1p], hmy⟩
     refine ⟨r, ?_, h2⟩
     refine Ev.step (fun k => by rw [dropperref05_live.l1]) ?_
     rw [rd_S71 fe q hq, hp, rg, hc, wrap_succ i (by omega), hL, hl, Int.toNat_natCast]
     exact ev_pos (by omega) (ev_pos (by omega) (ev_pos (by omega) (ev_pos (by omega) (ev_pos (by omega) (ev_pos rfl (ev_pos (by omega) (ev_neg h0 (ev_neg h1p h1))))))))
  ·
   have hmn := mask_no h (fun hx => hc ((hgc i).2 hx))
   rw [← htk] at hmn
   obtain ⟨r, h1, h2⟩ := next l hl (fun j hj hji => rfl) ⟨m, e, hmn⟩
   refine ⟨r, ?_, h2⟩
   refine Ev.step (fun k => by rw [dropperref05_live.l1]) ?_
   rw [rg, wrap_succ i (by omega), hL, hl]
   exact ev_pos (by omega) (ev_pos (by omega) (ev_pos (by omega) (ev_pos (by omega) (ev_pos (by omega) (ev_neg hc h1)))))
theorem rlive_l0 (n : Nat) (hn : n ≤ 8) (sw : List S69) (hsw : SwOk n sw) (hlen : sw.length ≤ 20) (fe : List S71) (hfe : FeOk n fe) (hfl : fe.length ≤ 20) (st : Nat) (hst : st < 2 ^ 20) :
  ∀ (d q : Nat) (l : List Int), q + d = fe.length → Mark sw st n (fe.take q) l → ∃ r, Ev (fun k => dropperref05_live.l0 k (st : Int) l (q : Int) (n : Int) sw fe) r ∧ Mark sw st n fe r := by
 intro d
 induction d with
 | zero =>
  intro q l hq hl
  obtain rfl : q = fe.length := by omega
  rw [List.take_length] at hl
  refine ⟨l, ?_, hl⟩
  refine Ev.step (fun k => by rw [dropperref05_live.l0]) ?_
  exact ev_neg (by omega) (Ev.now _)
 | succ d ih =>
  intro q l hq hl
  have hlt : q < fe.length := by omega
  obtain ⟨f0, f1, f2, f3⟩ := hfe fe[q] (List.getElem_mem hlt)
  obtain ⟨g, hg1, hg2, hg3⟩ := from_ev n hn sw fe hsw hlen st fe[q].f0.toNat hst (by omega)
  rw [Int.toNat_of_nonneg f0] at hg1
  obtain ⟨r, h1, h2⟩ := rlive_l1 n hn sw fe hfe hfl st q hlt g hg2 hg3 (fun l' hl' => ih (q + 1) l' (by omega) hl') n 0 l (by omega) hl.1 (fun j hj => by rw [if_neg (by omega)]; exact hl.2 j hj)
  refine ⟨r, ?_, h2⟩
  refine Ev.step (fun k => by rw [dropperref05_live.l0]) ?_
  rw [rd_S71 fe q hlt]
  exact ev_pos (by omega) (ev_pos (by omega) (Ev.bind hg1 h1))
theorem rlive_ev (n : Nat) (hn : n ≤ 8) (sw : List S69) (hsw : SwOk n sw) (hlen : sw.length ≤ 20) (fe : List S71) (hfe : FeOk n fe) (hfl : fe.length ≤ 20) (st : Nat) (hst : st < 2 ^ 20) :
  ∃ r, Ev (fun k => dropperref05_live.f k (n : Int) sw fe (st : Int)) r ∧ Mark sw st n fe r := by
 obtain ⟨r, h1, h2⟩ := rlive_l0 n hn sw hsw hlen fe hfe hfl st hst fe.length 0 (List.replicate n 0) (by omega) ⟨List.length_replicate, fun i hi => ⟨0, by simp [rd, hi, lv, cn], mask_new⟩⟩
 refine ⟨r, ?_, h2⟩
 unfold dropperref05_live.f
 rw [Int.toNat_natCast]
 exact ev_pos (by omega) (ev_pos (by omega) h1)
theorem mark_unique {sw : List S69} {st n : Nat} {fe : List S71} {l l' : List Int} (h : Mark sw st n fe l) (h' : Mark sw st n fe l') : l = l' := by
 apply List.ext_getElem (h.1.trans h'.1.symm)
 intro i h1 h2
 obtain ⟨m, e, k⟩ := h.2 i (by have := h.1; omega)
 obtain ⟨m', e', k'⟩ := h'.2 i (by have := h.1; omega)
 obtain rfl := mask_unique k k'
 have e1 : rd l (i : Int) = l[i] := by simp [rd, List.getD_eq_getElem?_getD, h1]
 have e2 : rd l' (i : Int) = l'[i] := by simp [rd, List.getD_eq_getElem?_getD, h2]
 rw [← e1, ← e2, e, e']
theorem GridOk.swn {n : Nat} {sw : List S69} {fe : List S71} (h : GridOk (n : Int) sw fe) : SwOk n sw := fun s hs => by
 have := h.2.2.2.2.1 s hs
 unfold SwIs at *
 omega
theorem pow_le10 {n : Nat} {sw : List S69} {fe : List S71} (h : GridOk (n : Int) sw fe) : 2 ^ sw.length ≤ 2 ^ 10 := Nat.pow_le_pow_right (by decide) h.2.2.1
noncomputable def marks (sw : List S69) (st n : Nat) (fe : List S71) : List Int := open Classical in if h : ∃ l, Mark sw st n fe l then Classical.choose h else []
theorem marks_of {sw : List S69} {st n : Nat} {fe : List S71} {l : List Int} (h : Mark sw st n fe l) : marks sw st n fe = l := by
 have hx : ∃ l, Mark sw st n fe l := ⟨l, h⟩
 unfold marks
 rw [dif_pos hx]
 exact mark_unique (Classical.choose_spec hx) h
section
variable {n : Nat} {sw : List S69} {fe : List S71} (h : GridOk (n : Int) sw fe) {st : Nat} (hst : st < 2 ^ sw.length)
include h hst
theorem marks_mark : Mark sw st n fe (marks sw st n fe) := by
 have hp := pow_le10 h
 obtain ⟨r, h1, h2⟩ := rlive_ev n (by have := h.2.1; omega) sw h.swn (by have := h.2.2.1; omega) fe h.fe (by have := h.2.2.2.1; omega) st (by omega)
 rw [marks_of h2]; exact h2
theorem rlive_val : Ev (fun k => dropperref05_live.f k (n : Int) sw fe (st : Int)) (marks sw st n fe) := by
 have hp := pow_le10 h
 obtain ⟨r, h1, h2⟩ := rlive_ev n (by have := h.2.1; omega) sw h.swn (by have := h.2.2.1; omega) fe h.fe (by have := h.2.2.2.1; omega) st (by omega)
 rw [marks_of h2]; exact h1
theorem marks_len : (marks sw st n fe).length = n := (marks_mark h hst).1
end
end Go.Proofs.YtoilhnmdemnknaaDoor.Plain

/- The exported functions of the program and of the document's answer, by the marks of the sections. -/
namespace Go.Proofs.YtoilhnmdemnknaaDoor.Plain
set_option linter.unusedVariables false
set_option linter.unusedSimpArgs false
open Go.RowKit Go.Proofs.YtoilhnmdemnknaaDoor.XFeed Go.Proofs.YtoilhnmdemnknaaDoorW.PrintWords Go.Proofs.YtoilhnmdemnknaaDoorW.PrintLast Go.Proofs.YtoilhnmdemnknaaDoorW.PrintMore
open Classical

theorem shl_one (n : Nat) (h : n ≤ 20) : shl .i64 1 (n : Int) = ((2 ^ n : Nat) : Int) := by
 have : 2 ^ n ≤ 2 ^ 20 := Nat.pow_le_pow_right (by decide) h
 rw [show (1 : Int) = ((1 : Nat) : Int) from rfl, shl_i (by omega) (by omega), Nat.one_shiftLeft]
theorem large_f (N : Int) (sw : List S69) (fe : List S71) (l : List Int) :
  dropperlaw05_Large.f N sw fe l = some (decide (20 < sw.length ∨ 20 < fe.length ∨ 1100 < l.length)) := by
 unfold dropperlaw05_Large.f
 by_cases h1 : (sw.length : Int) > 20
 ·
  rw [if_pos h1, decide_eq_true (by omega)]
 rw [if_neg h1]
 by_cases h2 : (fe.length : Int) > 20
 ·
  rw [if_pos h2, decide_eq_true (by omega)]
 rw [if_neg h2]
 congr 1
 rw [decide_eq_decide]
 omega
noncomputable def errG (N : Int) (sw : List S69) (fe : List S71) (st : Int) : Int := if GridOk N sw fe then (if 0 ≤ st ∧ st < ((2 ^ sw.length : Nat) : Int) then 0 else 51) else 50
theorem errG_zero {N : Int} {sw : List S69} {fe : List S71} {st : Int} : errG N sw fe st = 0 ↔ GridOk N sw fe ∧ 0 ≤ st ∧ st < ((2 ^ sw.length : Nat) : Int) := by
 unfold errG
 by_cases h : GridOk N sw fe
 ·
  rw [if_pos h]
  by_cases h2 : 0 ≤ st ∧ st < ((2 ^ sw.length : Nat) : Int)
  ·
   rw [if_pos h2]; exact iff_of_true rfl ⟨h, h2⟩
  ·
   rw [if_neg h2]; exact iff_of_false (by decide) (fun e => h2 e.2)
 ·
  rw [if_neg h]; exact iff_of_false (by decide) (fun e => h e.1)
theorem errG_nat {N : Int} {sw : List S69} {fe : List S71} {st : Int} (h : errG N sw fe st = 0) :
  ∃ n s : Nat, N = (n : Int) ∧ st = (s : Int) ∧ GridOk (n : Int) sw fe ∧ s < 2 ^ sw.length := by
 obtain ⟨h1, h2, h3⟩ := errG_zero.1 h
 obtain ⟨n, rfl⟩ := Int.eq_ofNat_of_zero_le (show 0 ≤ N by have := h1.1; omega)
 obtain ⟨s, rfl⟩ := Int.eq_ofNat_of_zero_le h2
 exact ⟨n, s, rfl, rfl, h1, by omega⟩
theorem open_g (N : Int) (sw : List S69) (fe : List S71) (st : Int) : feed_open.f N sw fe st = some (N, errG N sw fe st) := open_f N sw fe st
theorem rasked_ev (N : Int) (sw : List S69) (fe : List S71) (hl : sw.length ≤ 20) (st : Int) : Ev (fun k => dropperref05_asked.f k N sw fe st) (errG N sw fe st) := by
 unfold dropperref05_asked.f
 refine Ev.bind (rvalid_ev N sw fe) ?_
 by_cases h : GridOk N sw fe
 ·
  refine ev_pos (decide_eq_true h) ?_
  unfold dropperref05_IsState.f errG
  rw [shl_one _ hl, if_pos h]
  by_cases h0 : st ≥ 0
  ·
   rw [if_pos h0]
   by_cases h1 : st < ((2 ^ sw.length : Nat) : Int)
   ·
    rw [if_pos ⟨h0, h1⟩]
    exact ev_some (ev_pos (decide_eq_true h1) (Ev.now _))
   ·
    rw [if_neg (fun e => h1 e.2)]
    exact ev_some (ev_neg (by simpa using h1) (Ev.now _))
  ·
   rw [if_neg h0, if_neg (fun e => h0 e.1)]
   exact ev_some (ev_neg (by simp) (Ev.now _))
 ·
  refine ev_neg (by simpa using h) ?_
  unfold errG
  rw [if_neg h]
  exact Ev.now _
theorem rd_get {l : List Int} {i : Nat} (h : i < l.length) : rd l (i : Int) = l[i] := by simp [rd, List.getD_eq_getElem?_getD, h]
section
variable {n : Nat} {sw : List S69} {fe : List S71} (h : GridOk (n : Int) sw fe) {st : Nat} (hst : st < 2 ^ sw.length)
include h hst
end
end Go.Proofs.YtoilhnmdemnknaaDoor.Plain

/- Isolations: which lists are some, and the fewest. -/
namespace Go.Proofs.YtoilhnmdemnknaaDoor.Plain
set_option linter.unusedVariables false
set_option linter.unusedSimpArgs false
open Go.RowKit Go.Proofs.YtoilhnmdemnknaaDoor.XFeed Go.Proofs.YtoilhnmdemnknaaDoorW.PrintWords Go.Proofs.YtoilhnmdemnknaaDoorW.PrintLast Go.Proofs.YtoilhnmdemnknaaDoorW.PrintMore
open Classical

/-! what is left of a number without the bits of another one -/
theorem andNot_i {x y : Nat} (hx : x < 2 ^ 62) (hy : y < 2 ^ 62) : Go.bits .andNot .i64 (x : Int) (y : Int) = ((x ^^^ (x &&& y) : Nat) : Int) := by
 have h1 : x &&& y < 2 ^ 62 := Nat.and_lt_two_pow x hy
 have h : x ^^^ (x &&& y) < 2 ^ 62 := Nat.xor_lt_two_pow hx h1
 have e : (BitVec.ofNat 64 x &&& ~~~ BitVec.ofNat 64 y).toNat = x ^^^ (x &&& y) := by
  have e2 : BitVec.ofNat 64 x &&& ~~~ BitVec.ofNat 64 y = BitVec.ofNat 64 x ^^^ (BitVec.ofNat 64 x &&& BitVec.ofNat 64 y) := by
   apply BitVec.eq_of_getElem_eq
   intro i hi
   simp only [BitVec.getElem_and, BitVec.getElem_not, BitVec.getElem_xor]
   cases (BitVec.ofNat 64 x)[i] <;> cases (BitVec.ofNat 64 y)[i] <;> rfl
  rw [e2, BitVec.toNat_xor, BitVec.toNat_and, BitVec.toNat_ofNat, BitVec.toNat_ofNat, Nat.mod_eq_of_lt (show x < 2 ^ 64 by omega), Nat.mod_eq_of_lt (show y < 2 ^ 64 by omega)]
 simp only [Go.bits, ofInt_nat]
 rw [show IntKind.i64.bits = 64 from rfl, e]
 exact wrapI h
theorem gb {x i : Nat} (hi : i < 64) : (BitVec.ofNat 64 x)[i] = x.testBit i := by
 rw [← BitVec.getLsbD_eq_getElem, BitVec.getLsbD_ofNat]; simp [hi]
theorem xor_sub {x y : Nat} (hx : x < 2 ^ 62) (h : x &&& y = y) : x ^^^ y = x - y := by
 have hy : y ≤ x := by rw [← h]; exact Nat.and_le_left
 have h62 : x ^^^ y < 2 ^ 62 := Nat.xor_lt_two_pow hx (by omega)
 have hb : ∀ i, x.testBit i = false → y.testBit i = false := fun i hi => by
  have := congrArg (fun z => z.testBit i) h
  simp only [Nat.testBit_and, hi, Bool.false_and] at this
  exact this.symm
 have e : BitVec.ofNat 64 (x ^^^ y) + BitVec.ofNat 64 y = BitVec.ofNat 64 x := by
  rw [BitVec.add_eq_or_of_and_eq_zero]
  ·
   apply BitVec.eq_of_getElem_eq
   intro i hi
   simp only [BitVec.getElem_or, gb, Nat.testBit_xor]
   cases hxi : x.testBit i <;> cases hyi : y.testBit i <;> simp_all
  ·
   apply BitVec.eq_of_getElem_eq
   intro i hi
   simp only [BitVec.getElem_and, gb, Nat.testBit_xor, BitVec.getElem_zero]
   cases hxi : x.testBit i <;> cases hyi : y.testBit i <;> simp_all
 have e2 := congrArg BitVec.toNat e
 rw [BitVec.toNat_add, BitVec.toNat_ofNat, BitVec.toNat_ofNat, BitVec.toNat_ofNat] at e2
 omega
theorem sub_bit {x y : Nat} (hx : x < 2 ^ 62) (h : x &&& y = y) (i : Nat) : (x - y).testBit i = (x.testBit i && !y.testBit i) := by
 rw [← xor_sub hx h, Nat.testBit_xor]
 have := congrArg (fun z => z.testBit i) h
 simp only [Nat.testBit_and] at this
 cases hxi : x.testBit i <;> cases hyi : y.testBit i <;> simp_all
/-! a section is dead -/
theorem lv_zero : ∀ m : Nat, m < 16 → m.testBit 0 = false → (lv m = 0 ↔ m = 0) := by decide +kernel
noncomputable def deadB (sw : List S69) (st n : Nat) (fe : List S71) (i : Nat) : Bool := rd (marks sw st n fe) (i : Int) == 0
section
variable {n : Nat} {sw : List S69} {fe : List S71} (h : GridOk (n : Int) sw fe) {st : Nat} (hst : st < 2 ^ sw.length)
include h hst
theorem dead_val {i : Nat} (hi : i < n) : Ev (fun k => feed_grid_dead.f k (n : Int) sw fe (st : Int) (i : Int)) (deadB sw st n fe i) := by
 have hp := pow_le10 h
 have hn := h.2.1
 obtain ⟨l, h1, h2, h3⟩ := fed_ev n (by omega) sw h.sw8 (by have := h.2.2.1; omega) fe h.fe (by have := h.2.2.2.1; omega) st (by omega)
 obtain ⟨m, e, hm⟩ := h3 i hi
 obtain ⟨m', e', hm'⟩ := (marks_mark h hst).2 i hi
 obtain rfl := mask_unique hm hm'
 have hz := lv_zero m hm.1 (mask_zero (n := n) h.fe hm)
 unfold feed_grid_dead.f
 refine Ev.bind h1 (ev_pos (by omega) (ev_pos (by omega) (ev_const (congrArg some ?_))))
 unfold deadB
 rw [e, e', Bool.eq_iff_iff, beq_iff_eq, beq_iff_eq, hz]
 omega
theorem dead_iff {i : Nat} (hi : i < n) : deadB sw st n fe i = true ↔ ∀ f ∈ fe, ¬ Conn sw st f.f0.toNat i := by
 obtain ⟨m, e, hm⟩ := (marks_mark h hst).2 i hi
 have hz := lv_zero m hm.1 (mask_zero (n := n) h.fe hm)
 unfold deadB
 rw [beq_iff_eq, e, hz]
 constructor
 ·
  rintro rfl f hf hc
  obtain ⟨p, hp⟩ := Int.eq_ofNat_of_zero_le (show 0 ≤ f.f1 by have := h.fe f hf; omega)
  have := (hm.2 p).2 ⟨f, hf, hp, hc⟩
  simp at this
 ·
  intro hall
  apply Nat.eq_of_testBit_eq
  intro p
  rw [Nat.zero_testBit, Bool.eq_false_iff]
  intro hb
  obtain ⟨f, hf, _, hc⟩ := (hm.2 p).1 hb
  exact hall f hf hc
end

/-! the lists -/
def before (l : List Int) (i : Nat) : Int := if i = 0 then -1 else rd l ((i - 1 : Nat) : Int)
theorem drop_cons {l : List Int} {i : Nat} (h : i < l.length) : l.drop i = l[i] :: l.drop (i + 1) := List.drop_eq_getElem_cons h
section
variable {n : Nat} {sw : List S69} {fe : List S71} (h : GridOk (n : Int) sw fe) {st : Nat} (hst : st < 2 ^ sw.length) {sec : Nat} (hsec : sec < n) (l : List Int) (hl : l.length ≤ 4000000000000000000)
include h hst hsec hl
end
/-! the error of a grid, a state and a section -/
noncomputable def errS (N : Int) (sw : List S69) (fe : List S71) (st sec : Int) : Int := if errG N sw fe st = 0 then (if 0 ≤ sec ∧ sec < N then 0 else 2) else errG N sw fe st
theorem bad_iff {N : Int} (h1 : 1 ≤ N) (h2 : N ≤ 8) (x : Int) : feed_grid_section.bad N x = !decide (0 ≤ x ∧ x < N) := by
 unfold feed_grid_section.bad
 rw [wrap_id (by omega) (by omega), Bool.eq_iff_iff]
 simp; omega
theorem asked_val (N : Int) (sw : List S69) (fe : List S71) (st sec : Int) : feed_asked.f N sw fe st sec = some (N, errS N sw fe st sec) := by
 unfold feed_asked.f errS
 rw [open_g]
 by_cases h : errG N sw fe st = 0
 ·
  have hg := (errG_zero.1 h).1
  simp only [Option.bind_some]
  rw [if_pos h, if_pos h]
  unfold feed_grid_section.f
  simp only [Option.bind_some, List.any_cons, List.any_nil, Bool.or_false]
  rw [bad_iff hg.1 hg.2.1]
  by_cases h2 : 0 ≤ sec ∧ sec < N
  ·
   rw [if_pos h2, decide_eq_true h2]; rfl
  ·
   rw [if_neg h2, decide_eq_false h2]; rfl
 ·
  simp only [Option.bind_some]
  rw [if_neg h, if_neg h]
theorem why_val (N : Int) (sw : List S69) (fe : List S71) (hl : sw.length ≤ 20) (st sec : Int) : Ev (fun k => dropperref05_Why.f k N sw fe st sec) (errS N sw fe st sec) := by
 unfold dropperref05_Why.f errS
 refine Ev.bind (rasked_ev N sw fe hl st) ?_
 by_cases h : errG N sw fe st = 0
 ·
  refine ev_pos h ?_
  rw [if_pos h, section_f]
  by_cases h2 : 0 ≤ sec ∧ sec < N
  ·
   rw [if_pos h2]; exact ev_some (ev_pos (decide_eq_true h2) (Ev.now _))
  ·
   rw [if_neg h2]; exact ev_some (ev_neg (by simpa using h2) (Ev.now _))
 ·
  refine ev_neg h ?_
  rw [if_neg h]
  exact Ev.now _
theorem errS_nat {N : Int} {sw : List S69} {fe : List S71} {st sec : Int} (h : errS N sw fe st sec = 0) :
  ∃ n s c : Nat, N = (n : Int) ∧ st = (s : Int) ∧ sec = (c : Int) ∧ GridOk (n : Int) sw fe ∧ s < 2 ^ sw.length ∧ c < n := by
 unfold errS at h
 by_cases hg : errG N sw fe st = 0
 ·
  rw [if_pos hg] at h
  by_cases h2 : 0 ≤ sec ∧ sec < N
  ·
   obtain ⟨n, s, rfl, rfl, a, b⟩ := errG_nat hg
   obtain ⟨c, rfl⟩ := Int.eq_ofNat_of_zero_le h2.1
   exact ⟨n, s, c, rfl, rfl, rfl, a, b, by omega⟩
  ·
   rw [if_neg h2] at h; cases h
 ·
  rw [if_neg hg] at h; exact absurd h hg
end Go.Proofs.YtoilhnmdemnknaaDoor.Plain

/- The fewest switches that isolate a section. -/
namespace Go.Proofs.YtoilhnmdemnknaaDoor.Plain
set_option linter.unusedVariables false
set_option linter.unusedSimpArgs false
open Go.RowKit Go.Proofs.YtoilhnmdemnknaaDoor.XFeed Go.Proofs.YtoilhnmdemnknaaDoorW.PrintWords Go.Proofs.YtoilhnmdemnknaaDoorW.PrintLast Go.Proofs.YtoilhnmdemnknaaDoorW.PrintMore
open Classical

/-! numbers below 1024 as sets -/
def pc (m : Nat) : Nat := ((List.range 10).filter m.testBit).length
theorem ones1024 : ∀ m : Nat, m < 1024 → bits_OnesCount.f (m : Int) = some (pc m : Int) := by decide +kernel
theorem pc_le (m : Nat) : pc m ≤ 10 := by
 unfold pc
 exact Nat.le_trans (List.length_filter_le _ _) (by simp)
theorem sub_and {m st : Nat} (h : m ^^^ (m &&& st) = 0) : st &&& m = m := by
 apply Nat.eq_of_testBit_eq
 intro j
 have := congrArg (fun z => z.testBit j) h
 simp only [Nat.testBit_xor, Nat.testBit_and, Nat.zero_testBit] at this
 rw [Nat.testBit_and]
 cases h1 : m.testBit j <;> cases h2 : st.testBit j <;> simp_all
theorem and_sub {m st : Nat} (h : st &&& m = m) : m ^^^ (m &&& st) = 0 := by
 rw [Nat.and_comm, h, Nat.xor_self]
section
variable {n : Nat} {sw : List S69} {fe : List S71} (h : GridOk (n : Int) sw fe) {st : Nat} (hst : st < 2 ^ sw.length) {sec : Nat} (hsec : sec < n)
def Iso (sw : List S69) (fe : List S71) (n st sec m : Nat) : Prop := st &&& m = m ∧ deadB sw (st - m) n fe sec = true
def Least (sw : List S69) (fe : List S71) (n st sec i b : Nat) : Prop := Iso sw fe n st sec b ∧ ∀ m, m < i → Iso sw fe n st sec m → pc b ≤ pc m
include h hst hsec
theorem least_l0 : ∀ (d i b : Nat), i + d = 2 ^ sw.length → b < 2 ^ sw.length → Least sw fe n st sec i b →
  ∃ r, Ev (fun k => feed_grid_least.l0 k (st : Int) (sec : Int) (b : Int) ((2 ^ sw.length : Nat) : Int) (i : Int) (n : Int) sw fe) ((r : Nat) : Int) ∧ r < 2 ^ sw.length ∧ Least sw fe n st sec (2 ^ sw.length) r := by
 have hp := pow_le10 h
 have hlen := h.2.2.1
 intro d
 induction d with
 | zero =>
  intro i b hi hb hL
  obtain rfl : i = 2 ^ sw.length := by omega
  refine ⟨b, ?_, hb, hL⟩
  refine Ev.step (fun k => by rw [feed_grid_least.l0]) ?_
  exact ev_neg (by omega) (Ev.now _)
 | succ d ih =>
  intro i b hi hb hL
  have wu : ∀ x : Nat, x < 2 ^ sw.length → IntKind.u64.wrap (x : Int) = (x : Int) := fun x hx => wrapU (by omega)
  have hand : Go.bits .andNot .i64 (i : Int) (st : Int) = ((i ^^^ (i &&& st) : Nat) : Int) := andNot_i (by omega) (by omega)
  have skip : (Iso sw fe n st sec i → pc b ≤ pc i) → Least sw fe n st sec (i + 1) b := fun hs => ⟨hL.1, fun m hm hi2 => by
   by_cases hmi : m < i
   ·
    exact hL.2 m hmi hi2
   ·
    obtain rfl : m = i := by omega
    exact hs hi2⟩
  by_cases hz : i ^^^ (i &&& st) = 0
  ·
   have hsub := sub_and hz
   have hdl : st - i < 2 ^ sw.length := by omega
   by_cases hc : pc i < pc b
   ·
    have hdead := dead_val h hdl hsec
    have e2 : Go.bits .andNot .i64 (st : Int) (i : Int) = ((st - i : Nat) : Int) := by rw [andNot_i (by omega) (by omega), hsub, xor_sub (by omega) hsub]
    cases hd : deadB sw (st - i) n fe sec with
    | true =>
     obtain ⟨r, g1, g2⟩ := ih (i + 1) i (by omega) (by omega) ⟨⟨hsub, hd⟩, fun m hm hi2 => by
      by_cases hmi : m < i
      ·
       have := hL.2 m hmi hi2; omega
      ·
       obtain rfl : m = i := by omega
       exact Nat.le_refl _⟩
     refine ⟨r, ?_, g2⟩
     refine Ev.step (fun k => by rw [feed_grid_least.l0]) ?_
     rw [hand, hz, wu i (by omega), wu b hb, ones1024 i (by omega), ones1024 b (by omega), e2, wrap_succ i (by omega)]
     exact ev_pos (by omega) (ev_pos rfl (ev_some (ev_some (ev_pos (by omega) (Ev.bind hdead (ev_pos hd g1))))))
    | false =>
     obtain ⟨r, g1, g2⟩ := ih (i + 1) b (by omega) hb (skip fun hI => by rw [hI.2] at hd; cases hd)
     refine ⟨r, ?_, g2⟩
     refine Ev.step (fun k => by rw [feed_grid_least.l0]) ?_
     rw [hand, hz, wu i (by omega), wu b hb, ones1024 i (by omega), ones1024 b (by omega), e2, wrap_succ i (by omega)]
     exact ev_pos (by omega) (ev_pos rfl (ev_some (ev_some (ev_pos (by omega) (Ev.bind hdead (ev_neg (by rw [hd]; simp) g1))))))
   ·
    obtain ⟨r, g1, g2⟩ := ih (i + 1) b (by omega) hb (skip fun hI => by omega)
    refine ⟨r, ?_, g2⟩
    refine Ev.step (fun k => by rw [feed_grid_least.l0]) ?_
    rw [hand, hz, wu i (by omega), wu b hb, ones1024 i (by omega), ones1024 b (by omega), wrap_succ i (by omega)]
    exact ev_pos (by omega) (ev_pos rfl (ev_some (ev_some (ev_neg (by omega) g1))))
  ·
   obtain ⟨r, g1, g2⟩ := ih (i + 1) b (by omega) hb (skip fun hI => absurd (and_sub hI.1) hz)
   refine ⟨r, ?_, g2⟩
   refine Ev.step (fun k => by rw [feed_grid_least.l0]) ?_
   rw [hand, wrap_succ i (by omega)]
   exact ev_pos (by omega) (ev_neg (by omega) g1)
theorem iso_all (hat : ∀ f ∈ fe, f.f0 ≠ (sec : Int)) : Iso sw fe n st sec st := by
 have hst_ := hst
 have hp := pow_le10 h
 refine ⟨Nat.and_self _, ?_⟩
 rw [Nat.sub_self]
 refine (dead_iff h (Nat.pow_pos (by decide)) hsec).2 (fun f hf hc => ?_)
 have hf0 := (h.fe f hf).1
 have : ∀ a b, Conn sw 0 a b → a = b := by
  intro a b hab
  induction hab with
  | refl => rfl
  | step _ e _ => obtain ⟨i, hi, hb, _⟩ := e; simp at hb
 have := this _ _ hc
 have := hat f hf
 omega
theorem least_val (hat : ∀ f ∈ fe, f.f0 ≠ (sec : Int)) : ∃ r, Ev (fun k => feed_grid_least.f k (n : Int) sw fe (st : Int) (sec : Int)) ((r : Nat) : Int) ∧ r < 2 ^ sw.length ∧ Least sw fe n st sec (2 ^ sw.length) r := by
 obtain ⟨r, g1, g2⟩ := least_l0 h hst hsec (2 ^ sw.length) 0 st (by omega) hst ⟨iso_all h hst hsec hat, fun m hm => by omega⟩
 refine ⟨r, ?_, g2⟩
 unfold feed_grid_least.f
 rw [all_f _ _ _ h.2.2.1]
 exact ev_some g1
def pcTo (m i : Nat) : Nat := ((List.range i).filter m.testBit).length
omit h hst hsec in
theorem pcTo_succ (m i : Nat) : pcTo m (i + 1) = pcTo m i + if m.testBit i = true then 1 else 0 := by
 unfold pcTo
 rw [List.range_succ, List.filter_append, List.length_append]
 congr 1
 by_cases hb : m.testBit i = true <;> simp [hb]
omit h hst hsec in
theorem pcTo_le (m i : Nat) : pcTo m i ≤ i := by
 unfold pcTo
 exact Nat.le_trans (List.length_filter_le _ _) (by simp)
omit h hst hsec in
theorem pcTo_all {m len : Nat} (hm : m < 2 ^ len) : ∀ d, pcTo m (len + d) = pcTo m len := by
 intro d
 induction d with
 | zero => rfl
 | succ d ih =>
  rw [← Nat.add_assoc, pcTo_succ, ih, Nat.testBit_lt_two_pow (Nat.lt_of_lt_of_le hm (Nat.pow_le_pow_right (by decide) (by omega)))]
  simp
omit h hst hsec in
theorem pcTo_len {m len : Nat} (hm : m < 2 ^ len) (hl : len ≤ 10) : pcTo m len = pc m := by
 have := pcTo_all hm (10 - len)
 rw [show len + (10 - len) = 10 by omega] at this
 rw [← this]; rfl
theorem fewest_l1 (best s : Nat) (hs : s < 2 ^ sw.length) (r : Int) (hend : Ev (fun k => dropperref05_Fewest.l0 k (st : Int) (sec : Int) (mn (best : Int) (pc s : Int)) ((s + 1 : Nat) : Int) (n : Int) sw fe) r) :
  ∀ (d i : Nat), i + d = sw.length → Ev (fun k => dropperref05_Fewest.l1 k (st : Int) (sec : Int) (best : Int) (s : Int) (pcTo s i : Int) (i : Int) (n : Int) sw fe) r := by
 have hp := pow_le10 h
 have hlen := h.2.2.1
 have hst_ := hst
 have hsec_ := hsec
 intro d
 induction d with
 | zero =>
  intro i hi
  obtain rfl : i = sw.length := by omega
  refine Ev.step (fun k => by rw [dropperref05_Fewest.l1]) ?_
  rw [pcTo_len hs hlen, wrap_succ s (by omega)]
  exact ev_neg (by omega) hend
 | succ d ih =>
  intro i hi
  have hle := pcTo_le s i
  have := ih (i + 1) (by omega)
  rw [pcTo_succ] at this
  refine Ev.step (fun k => by rw [dropperref05_Fewest.l1]) ?_
  rw [closed_f (by omega) (by omega), wrap_succ i (by omega)]
  by_cases hb : s.testBit i = true
  ·
   rw [if_pos hb] at this
   rw [wrap_succ (pcTo s i) (by omega)]
   exact ev_pos (by omega) (ev_some (ev_pos hb this))
  ·
   rw [if_neg hb] at this
   exact ev_pos (by omega) (ev_some (ev_neg hb this))
theorem fewest_l0 (b : Nat) (hL : Least sw fe n st sec (2 ^ sw.length) b) (hb : b < 2 ^ sw.length) : ∀ (d s best : Nat), s + d = 2 ^ sw.length → best ≤ 10 → pc b ≤ best → (b < s → best = pc b) →
  Ev (fun k => dropperref05_Fewest.l0 k (st : Int) (sec : Int) (best : Int) (s : Int) (n : Int) sw fe) (pc b : Int) := by
 have hp := pow_le10 h
 have hlen := h.2.2.1
 intro d
 induction d with
 | zero =>
  intro s best hs h10 h1 h2
  obtain rfl : s = 2 ^ sw.length := by omega
  refine Ev.step (fun k => by rw [dropperref05_Fewest.l0]) ?_
  rw [shl_one _ (by omega), h2 hb]
  exact ev_neg (by omega) (Ev.now _)
 | succ d ih =>
  intro s best hs h10 h1 h2
  have hand : Go.bits .and .i64 (s : Int) (st : Int) = ((s &&& st : Nat) : Int) := and_i (by omega) (by omega)
  have hpc := pc_le s
  have next : ¬ Iso sw fe n st sec s → Ev (fun k => dropperref05_Fewest.j1 k (st : Int) (sec : Int) (best : Int) (s : Int) true (n : Int) sw fe) (pc b : Int) := fun hn => by
   refine Ev.step (fun k => by rw [dropperref05_Fewest.j1]) ?_
   rw [wrap_succ s (by omega)]
   refine ev_pos rfl (ih (s + 1) best (by omega) h10 h1 (fun hbs => ?_))
   by_cases e : b = s
   ·
    subst e; exact absurd hL.1 hn
   ·
    exact h2 (by omega)
  refine Ev.step (fun k => by rw [dropperref05_Fewest.l0]) ?_
  rw [shl_one _ (by omega), hand]
  refine ev_pos (by omega) ?_
  by_cases hsub : st &&& s = s
  ·
   have hle : s ≤ st := by rw [← hsub]; exact Nat.and_le_left
   have hdl : st - s < 2 ^ sw.length := by omega
   have hml := marks_len h hdl
   rw [wrap_id (x := (st : Int) - (s : Int)) (by omega) (by omega), show (st : Int) - (s : Int) = ((st - s : Nat) : Int) by omega]
   refine ev_pos (by rw [Nat.and_comm, hsub]) (Ev.bind (rlive_val h hdl) (ev_pos (by omega) (ev_pos (by rw [hml]; omega) ?_)))
   cases hd : deadB sw (st - s) n fe sec with
   | true =>
    have hI : Iso sw fe n st sec s := ⟨hsub, hd⟩
    have e : (rd (marks sw (st - s) n fe) (sec : Int) != 0) = false := by unfold deadB at hd; rw [bne, hd]; rfl
    rw [e]
    have hmin := hL.2 s (by omega) hI
    refine Ev.step (fun k => by rw [dropperref05_Fewest.j1]) (ev_neg (by simp) ?_)
    have := fewest_l1 h hst hsec best s (by omega) (pc b : Int) (by
     have em : mn (best : Int) (pc s : Int) = ((min best (pc s) : Nat) : Int) := by unfold mn; split <;> omega
     rw [em]
     exact ih (s + 1) (min best (pc s)) (by omega) (by omega) (by omega) (fun hbs => by
      by_cases e : b = s
      ·
       subst e; omega
      ·
       have := h2 (by omega); omega)) sw.length 0 (by omega)
    exact this
   | false =>
    have e : (rd (marks sw (st - s) n fe) (sec : Int) != 0) = true := by unfold deadB at hd; rw [bne, hd]; rfl
    rw [e]
    exact next (fun hI => by rw [hI.2] at hd; cases hd)
  ·
   refine ev_neg (fun e => hsub ?_) (next fun hI => hsub hI.1)
   rw [Nat.and_comm]; omega
theorem fewest_val (b : Nat) (hL : Least sw fe n st sec (2 ^ sw.length) b) (hb : b < 2 ^ sw.length) : Ev (fun k => dropperref05_Fewest.f k (n : Int) sw fe (st : Int) (sec : Int)) (pc b : Int) := by
 unfold dropperref05_Fewest.f
 have hlen := h.2.2.1
 exact fewest_l0 h hst hsec b hL hb (2 ^ sw.length) 0 sw.length (by omega) (by omega) (by rw [← pcTo_len hb hlen]; exact pcTo_le _ _) (fun hx => by omega)
end
theorem at_l0 (N : Int) (sw : List S69) (fe : List S71) (hl : fe.length ≤ 100) (sec : Int) : ∀ (d i : Nat), i + d = fe.length → (∀ j (h : j < fe.length), j < i → fe[j].f0 ≠ sec) →
  Ev (fun k => dropperref05_At.l0 k sec (i : Int) N sw fe) (fe.any (feed_grid_atHome.p sec)) := by
 intro d
 induction d with
 | zero =>
  intro i hi hb
  refine Ev.step (fun k => by rw [dropperref05_At.l0]) ?_
  refine ev_neg (by omega) (ev_const (congrArg some ?_))
  symm
  rw [List.any_eq_false]
  intro f hf
  obtain ⟨j, hj, rfl⟩ := List.mem_iff_getElem.1 hf
  have := hb j hj (by omega)
  unfold feed_grid_atHome.p
  simpa using this
 | succ d ih =>
  intro i hi hb
  have hlt : i < fe.length := by omega
  refine Ev.step (fun k => by rw [dropperref05_At.l0]) ?_
  rw [rd_S71 fe i hlt, wrap_succ i (by omega)]
  refine ev_pos (by omega) (ev_pos (by omega) ?_)
  by_cases he : fe[i].f0 = sec
  ·
   refine ev_pos he (ev_const (congrArg some ?_))
   symm
   rw [List.any_eq_true]
   exact ⟨_, List.getElem_mem hlt, by unfold feed_grid_atHome.p; simpa using he⟩
  ·
   refine ev_neg he (ih (i + 1) (by omega) (fun j hj hji => ?_))
   by_cases hh : j < i
   ·
    exact hb j hj hh
   ·
    obtain rfl : j = i := by omega
    exact he
theorem at_val (N : Int) (sw : List S69) (fe : List S71) (hl : fe.length ≤ 100) (sec : Int) : Ev (fun k => dropperref05_At.f k N sw fe sec) (fe.any (feed_grid_atHome.p sec)) := by
 unfold dropperref05_At.f
 exact at_l0 N sw fe hl sec fe.length 0 (by omega) (fun j hj h0 => by omega)
theorem atHome_f (N : Int) (sw : List S69) (fe : List S71) (sec : Int) : feed_grid_atHome.f N sw fe sec = some (fe.any (feed_grid_atHome.p sec)) := rfl
theorem not_home {fe : List S71} {sec : Int} (h : fe.any (feed_grid_atHome.p sec) = false) : ∀ f ∈ fe, f.f0 ≠ sec := by
 rw [List.any_eq_false] at h
 intro f hf he
 exact h f hf (by unfold feed_grid_atHome.p; simpa using he)
end Go.Proofs.YtoilhnmdemnknaaDoor.Plain

/- Menger's law for edges: as many paths that share no edge as the fewest edges of a cut. By flows, which are made greater along a path, or taken apart into paths. -/
namespace Go.Proofs.YtoilhnmdemnknaaDoor.Menger
set_option linter.unusedVariables false

/-! sums -/
def sm : Nat → (Nat → Int) → Int
  | 0, _ => 0
  | n + 1, g => sm n g + g n
theorem sm_congr {g h : Nat → Int} : ∀ n, (∀ i, i < n → g i = h i) → sm n g = sm n h
  | 0, _ => rfl
  | n + 1, e => by rw [sm, sm, sm_congr n (fun i hi => e i (by omega)), e n (by omega)]
theorem sm_add (g h : Nat → Int) : ∀ n, sm n (fun i => g i + h i) = sm n g + sm n h
  | 0 => rfl
  | n + 1 => by rw [sm, sm, sm, sm_add g h n]; omega
theorem sm_zero {g : Nat → Int} : ∀ n, (∀ i, i < n → g i = 0) → sm n g = 0
  | 0, _ => rfl
  | n + 1, e => by rw [sm, sm_zero n (fun i hi => e i (by omega)), e n (by omega)]; rfl
theorem sm_one {g : Nat → Int} {p : Nat} : ∀ n, p < n → (∀ i, i < n → i ≠ p → g i = 0) → sm n g = g p
  | 0, h, _ => by omega
  | n + 1, h, e => by
    rw [sm]
    by_cases hp : p = n
    · subst hp
      rw [sm_zero p (fun i hi => e i (by omega) (by omega))]; omega
    · rw [sm_one n (by omega) (fun i hi hne => e i (by omega) hne), e n (by omega) (fun h => hp h.symm)]; omega
theorem sm_le {g h : Nat → Int} : ∀ n, (∀ i, i < n → g i ≤ h i) → sm n g ≤ sm n h
  | 0, _ => Int.le_refl _
  | n + 1, e => by
    have := sm_le n (fun i hi => e i (by omega))
    have := e n (by omega)
    rw [sm, sm]; omega

section
variable (m n : Nat) (x y : Nat → Nat) (cl : Nat → Bool) (hxy : ∀ e, e < m → x e < n ∧ y e < n ∧ x e ≠ y e) (Home : Nat → Prop) (s : Nat) (hs : s < n) (hns : ¬ Home s)
def Joined (e u v : Nat) : Prop := e < m ∧ cl e = true ∧ ((x e = u ∧ y e = v) ∨ (x e = v ∧ y e = u))
inductive Wk (ok : Nat → Nat → Nat → Prop) (s : Nat) : Nat → List Nat → List Nat → Prop
  | src : Wk ok s s [s] []
  | step {u v e : Nat} {vs es : List Nat} : Wk ok s u vs es → ok e u v → v ∉ vs → Wk ok s v (v :: vs) (e :: es)
inductive Rch (ok : Nat → Nat → Nat → Prop) (s : Nat) : Nat → Prop
  | src : Rch ok s s
  | step {u v e : Nat} : Rch ok s u → ok e u v → Rch ok s v
theorem Wk.head {ok : Nat → Nat → Nat → Prop} {s v : Nat} {vs es : List Nat} (h : Wk ok s v vs es) : ∃ t, vs = v :: t := by
  cases h with
  | src => exact ⟨[], rfl⟩
  | step => exact ⟨_, rfl⟩
theorem Wk.cut {ok : Nat → Nat → Nat → Prop} {s v : Nat} {vs es : List Nat} (h : Wk ok s v vs es) : ∀ w ∈ vs, ∃ vs' es', Wk ok s w vs' es' := by
  induction h with
  | src => intro w hw; obtain rfl : w = s := by simpa using hw
           exact ⟨_, _, Wk.src⟩
  | step h hok hv ih =>
    intro w hw
    rcases List.mem_cons.1 hw with rfl | hw
    · exact ⟨_, _, Wk.step h hok hv⟩
    · exact ih w hw
theorem Rch.wk {ok : Nat → Nat → Nat → Prop} {s v : Nat} (h : Rch ok s v) : ∃ vs es, Wk ok s v vs es := by
  induction h with
  | src => exact ⟨_, _, Wk.src⟩
  | step _ hok ih =>
    rename_i u v e _
    obtain ⟨vs, es, hw⟩ := ih
    by_cases hv : v ∈ vs
    · exact hw.cut v hv
    · exact ⟨_, _, Wk.step hw hok hv⟩
theorem Wk.mono {ok ok' : Nat → Nat → Nat → Prop} (hm : ∀ e u v, ok e u v → ok' e u v) {s v : Nat} {vs es : List Nat} (h : Wk ok s v vs es) : Wk ok' s v vs es := by
  induction h with
  | src => exact Wk.src
  | step _ hok hv ih => exact Wk.step ih (hm _ _ _ hok) hv
theorem Wk.ends {ok : Nat → Nat → Nat → Prop} (hm : ∀ e u v, ok e u v → Joined m x y cl e u v) {s v : Nat} {vs es : List Nat} (h : Wk ok s v vs es) : ∀ e ∈ es, e < m ∧ cl e = true ∧ x e ∈ vs ∧ y e ∈ vs := by
  induction h with
  | src => intro e he; cases he
  | step hw hok hv ih =>
    intro e he
    rcases List.mem_cons.1 he with rfl | he
    · obtain ⟨t, rfl⟩ := hw.head
      obtain ⟨h1, h2, h3⟩ := hm _ _ _ hok
      refine ⟨h1, h2, ?_⟩
      rcases h3 with ⟨h4, h5⟩ | ⟨h4, h5⟩ <;> rw [h4, h5] <;> simp
    · obtain ⟨h1, h2, h3, h4⟩ := ih e he
      exact ⟨h1, h2, List.mem_cons_of_mem _ h3, List.mem_cons_of_mem _ h4⟩
theorem Wk.fresh {ok : Nat → Nat → Nat → Prop} (hm : ∀ e u v, ok e u v → Joined m x y cl e u v) {s u v e : Nat} {vs es : List Nat} (h : Wk ok s u vs es) (hok : ok e u v) (hv : v ∉ vs) : e ∉ es := by
  intro he
  obtain ⟨_, _, h3, h4⟩ := h.ends m x y cl hm e he
  obtain ⟨_, _, h5⟩ := hm _ _ _ hok
  rcases h5 with ⟨h6, h7⟩ | ⟨h6, h7⟩
  · exact hv (h7 ▸ h4)
  · exact hv (h6 ▸ h3)

/-! flows -/
def dv (f : Nat → Int) (v e : Nat) : Int := if y e = v then f e else if x e = v then - f e else 0
def net (f : Nat → Int) (v : Nat) : Int := sm m (dv x y f v)
def sg (e v : Nat) : Int := if y e = v then 1 else -1
structure Flow (f : Nat → Int) : Prop where
  zero : ∀ e, f e ≠ 0 → e < m ∧ cl e = true
  small : ∀ e, -1 ≤ f e ∧ f e ≤ 1
  kept : ∀ v, v < n → v ≠ s → ¬ Home v → net m x y f v = 0
def val (f : Nat → Int) : Int := - net m x y f s
include hxy in
theorem exchange (f : Nat → Int) (R : Nat → Bool) : sm n (fun v => if R v then net m x y f v else 0) = sm m (fun e => f e * ((if R (y e) then 1 else 0) - (if R (x e) then 1 else 0))) := by
  have key : ∀ M, M ≤ m → sm n (fun v => if R v then sm M (dv x y f v) else 0) = sm M (fun e => f e * ((if R (y e) then 1 else 0) - (if R (x e) then 1 else 0))) := by
    intro M
    induction M with
    | zero => intro _; exact sm_zero n (fun i hi => by simp [sm])
    | succ M ih =>
      intro hM
      obtain ⟨h1, h2, h3⟩ := hxy M (by omega)
      have e1 : sm n (fun v => if R v then sm (M + 1) (dv x y f v) else 0) = sm n (fun v => (if R v then sm M (dv x y f v) else 0) + ((if v = y M then (if R v then f M else 0) else 0) + (if v = x M then (if R v then - f M else 0) else 0))) := by
        refine sm_congr n (fun v hv => ?_)
        by_cases hR : R v = true
        · simp only [hR, if_true, sm, dv]
          by_cases a : y M = v
          · subst a; simp [Ne.symm h3]
          · by_cases b : x M = v
            · subst b; simp [h3]; omega
            · rw [if_neg a, if_neg b, if_neg (fun e => a e.symm), if_neg (fun e => b e.symm)]; omega
        · simp [hR]
      rw [e1, sm_add, ih (by omega), sm_add, sm]
      rw [sm_one (p := y M) n h2 (fun i hi hne => by simp [hne]), sm_one (p := x M) n h1 (fun i hi hne => by simp [hne])]
      simp only [if_true]
      congr 1
      by_cases a : R (y M) = true <;> by_cases b : R (x M) = true <;> simp [a, b] <;> omega
  exact key m (Nat.le_refl _)
theorem out_of {f : Nat → Int} (hf : Flow m n x y cl Home s f) (hs : s < n) (R : Nat → Bool) (h1 : R s = true) (h2 : ∀ v, v < n → R v = true → ¬ Home v) : sm n (fun v => if R v then net m x y f v else 0) = - val m x y s f := by
  rw [sm_one (p := s) n hs]
  · rw [h1]; unfold val; simp
  · intro v hv hne
    by_cases hR : R v = true
    · rw [if_pos hR]; exact hf.kept v hv hne (h2 v hv hR)
    · rw [if_neg hR]
def upd (f : Nat → Int) (e : Nat) (c : Int) : Nat → Int := fun i => if i = e then c else f i
def push (σ : Int) (f : Nat → Int) : List Nat → List Nat → (Nat → Int)
  | v :: vs, e :: es => upd (push σ f vs es) e (push σ f vs es e + σ * sg y e v)
  | _, _ => f
theorem push_far {σ : Int} {f : Nat → Int} : ∀ {vs es : List Nat} {e : Nat}, e ∉ es → push y σ f vs es e = f e
  | [], [], _, _ => rfl
  | [], _ :: _, _, _ => rfl
  | _ :: _, [], _, _ => rfl
  | v :: vs, e' :: es, e, h => by
    have hne : e ≠ e' := fun hh => h (by rw [hh]; exact List.mem_cons_self ..)
    show (if e = e' then _ else _) = _
    rw [if_neg hne]
    exact push_far (fun hh => h (List.mem_cons_of_mem _ hh))
theorem net_upd (g : Nat → Int) {e : Nat} (he : e < m) (c : Int) (w : Nat) : net m x y (upd g e (g e + c)) w = net m x y g w + (if y e = w then c else if x e = w then - c else 0) := by
  unfold net
  have e1 : sm m (dv x y (upd g e (g e + c)) w) = sm m (fun i => dv x y g w i + (if i = e then (if y e = w then c else if x e = w then - c else 0) else 0)) := by
    refine sm_congr m (fun i hi => ?_)
    unfold dv upd
    by_cases hi2 : i = e
    · subst hi2
      simp only [if_true]
      by_cases a : y i = w
      · simp [a]
      · by_cases b : x i = w
        · simp [a, b]; omega
        · simp [a, b]
    · simp [hi2]
  have e3 : sm m (fun i => if i = e then (if y e = w then c else if x e = w then - c else 0) else 0) = (if y e = w then c else if x e = w then - c else 0) := by
    rw [sm_one (p := e) m he (fun i hi hne => by rw [if_neg hne]), if_pos rfl]
  rw [e1, sm_add, e3]
include hxy in
theorem net_push {ok : Nat → Nat → Nat → Prop} (hm : ∀ e u v, ok e u v → Joined m x y cl e u v) {s v : Nat} {vs es : List Nat} (h : Wk ok s v vs es) (σ : Int) (f : Nat → Int) (w : Nat) :
    net m x y (push y σ f vs es) w = net m x y f w + ((if w = v then σ else 0) - (if w = s then σ else 0)) := by
  induction h with
  | src => simp [push]
  | step hw hok hv ih =>
    rename_i u v e vs es
    obtain ⟨h1, _, h3⟩ := hm _ _ _ hok
    obtain ⟨_, _, h4⟩ := hxy e h1
    rw [push, net_upd m x y _ h1, ih]
    have hne : u ≠ v := by
      obtain ⟨t, rfl⟩ := hw.head
      intro e; subst e; exact hv (List.mem_cons_self ..)
    unfold sg
    generalize net m x y f w = N
    generalize (if w = s then σ else (0 : Int)) = z
    have hne2 : v ≠ u := fun e => hne e.symm
    rcases h3 with ⟨a, b⟩ | ⟨a, b⟩
    · rw [a, b, if_pos rfl]
      by_cases c1 : w = v
      · subst c1; rw [if_neg hne2, if_pos rfl, if_pos rfl]; omega
      · by_cases c2 : w = u
        · subst c2; rw [if_pos rfl, if_neg hne2, if_pos rfl, if_neg c1]; omega
        · rw [if_neg c2, if_neg (Ne.symm c1), if_neg (Ne.symm c2), if_neg c1]; omega
    · rw [a, b, if_neg hne]
      by_cases c1 : w = v
      · subst c1; rw [if_neg hne2, if_neg hne, if_pos rfl, if_pos rfl]; omega
      · by_cases c2 : w = u
        · subst c2; rw [if_pos rfl, if_pos rfl, if_neg c1]; omega
        · rw [if_neg c2, if_neg (Ne.symm c2), if_neg (Ne.symm c1), if_neg c1]; omega
include hxy in
theorem augment {f : Nat → Int} (hf : Flow m n x y cl Home s f) (hns : ¬ Home s) {v : Nat} (hv : Home v) (h : Rch (fun e u v => Joined m x y cl e u v ∧ f e ≠ sg y e v) s v) :
    ∃ g, Flow m n x y cl Home s g ∧ val m x y s g = val m x y s f + 1 := by
  obtain ⟨vs, es, hw⟩ := h.wk
  have hm : ∀ e u v, (Joined m x y cl e u v ∧ f e ≠ sg y e v) → Joined m x y cl e u v := fun _ _ _ h => h.1
  have hb : ∀ e, e ∈ es → e < m ∧ cl e = true := fun e he => ⟨(hw.ends m x y cl hm e he).1, (hw.ends m x y cl hm e he).2.1⟩
  have hsmall : ∀ e, -1 ≤ push y 1 f vs es e ∧ push y 1 f vs es e ≤ 1 := by
    clear hb hv h
    induction hw with
    | src => exact hf.small
    | step hw hok hv ih =>
      rename_i u v e vs es
      intro i
      rw [push, upd]
      by_cases hi : i = e
      · rw [if_pos hi, push_far y (hw.fresh m x y cl hm hok hv)]
        have := hf.small e
        have := hok.2
        unfold sg at *
        split <;> simp_all <;> omega
      · rw [if_neg hi]; exact ih i
  refine ⟨push y 1 f vs es, ⟨fun e he => ?_, hsmall, fun w hwn hws hwh => ?_⟩, ?_⟩
  · by_cases hm2 : e ∈ es
    · exact hb e hm2
    · rw [push_far y hm2] at he; exact hf.zero e he
  · rw [net_push m n x y cl hxy hm hw, hf.kept w hwn hws hwh, if_neg (fun e => hwh (by rw [e]; exact hv)), if_neg hws]; rfl
  · unfold val
    rw [net_push m n x y cl hxy hm hw, if_neg (fun e => hns (by rw [e]; exact hv)), if_pos rfl]; omega
include hxy in
theorem peel {f : Nat → Int} (hf : Flow m n x y cl Home s f) (hs : s < n) (hns : ¬ Home s) (hpos : 0 < val m x y s f) :
    ∃ v vs es g, Wk (Joined m x y cl) s v vs es ∧ Home v ∧ (∀ e ∈ es, f e ≠ 0 ∧ g e = 0) ∧ (∀ e, e ∉ es → g e = f e) ∧ Flow m n x y cl Home s g ∧ val m x y s g = val m x y s f - 1 := by
  have hm : ∀ e u v, (Joined m x y cl e u v ∧ f e = sg y e v) → Joined m x y cl e u v := fun _ _ _ h => h.1
  have hex : ∃ v, v < n ∧ Home v ∧ Rch (fun e u v => Joined m x y cl e u v ∧ f e = sg y e v) s v := by
    apply Classical.byContradiction
    intro hno
    let R : Nat → Bool := fun v => @decide (Rch (fun e u v => Joined m x y cl e u v ∧ f e = sg y e v) s v) (Classical.propDecidable _)
    have hR : ∀ v, R v = true ↔ Rch (fun e u v => Joined m x y cl e u v ∧ f e = sg y e v) s v := fun v => by simp [R]
    have e1 := exchange m n x y hxy f R
    rw [out_of m n x y cl Home s hf hs R ((hR s).2 Rch.src) (fun v hv hr hh => hno ⟨v, hv, hh, (hR v).1 hr⟩)] at e1
    have : sm m (fun _ => 0) ≤ sm m (fun e => f e * ((if R (y e) then 1 else 0) - (if R (x e) then 1 else 0))) := by
      refine sm_le m (fun e he => ?_)
      obtain ⟨h1, h2, h3⟩ := hxy e he
      have hsm := hf.small e
      by_cases a : R (y e) = true
      · by_cases b : R (x e) = true
        · simp [a, b]
        · simp only [a, if_true]
          rw [if_neg b]
          have : f e ≠ -1 := fun hfe => b ((hR _).2 (Rch.step ((hR _).1 a) ⟨⟨he, (hf.zero e (by omega)).2, .inr ⟨rfl, rfl⟩⟩, by unfold sg; rw [if_neg (Ne.symm h3)]; exact hfe⟩))
          omega
      · by_cases b : R (x e) = true
        · simp only [b, if_true]
          rw [if_neg a]
          have : f e ≠ 1 := fun hfe => a ((hR _).2 (Rch.step ((hR _).1 b) ⟨⟨he, (hf.zero e (by omega)).2, .inl ⟨rfl, rfl⟩⟩, by unfold sg; rw [if_pos rfl]; exact hfe⟩))
          omega
        · simp [a, b]
    rw [sm_zero m (fun _ _ => rfl)] at this
    omega
  obtain ⟨v, hvn, hv, hr⟩ := hex
  obtain ⟨vs, es, hw⟩ := hr.wk
  have hval : ∀ e ∈ es, f e ≠ 0 ∧ push y (-1) f vs es e = 0 := by
    clear hv hr hvn
    induction hw with
    | src => intro e he; cases he
    | step hw hok hv ih =>
      rename_i u v e vs es
      intro i hi
      rw [push, upd]
      by_cases hie : i = e
      · subst hie
        rw [if_pos rfl, push_far y (hw.fresh m x y cl hm hok hv), hok.2]
        unfold sg
        split <;> exact ⟨by decide, by decide⟩
      · rw [if_neg hie]
        rcases List.mem_cons.1 hi with h | h
        · exact absurd h hie
        · exact ih i h
  refine ⟨v, vs, es, push y (-1) f vs es, hw.mono hm, hv, hval, fun e he => push_far y he, ⟨fun e he => ?_, fun e => ?_, fun w hwn hws hwh => ?_⟩, ?_⟩
  · by_cases hm2 : e ∈ es
    · exact absurd (hval e hm2).2 he
    · rw [push_far y hm2] at he; exact hf.zero e he
  · by_cases hm2 : e ∈ es
    · rw [(hval e hm2).2]; exact ⟨by decide, by decide⟩
    · rw [push_far y hm2]; exact hf.small e
  · rw [net_push m n x y cl hxy hm hw, hf.kept w hwn hws hwh, if_neg (fun e => hwh (by rw [e]; exact hv)), if_neg hws]; rfl
  · unfold val
    rw [net_push m n x y cl hxy hm hw, if_neg (fun e => hns (by rw [e]; exact hv)), if_pos rfl]; omega
include hxy in
theorem paths_of (hs : s < n) (hns : ¬ Home s) : ∀ (k : Nat) (f : Nat → Int), Flow m n x y cl Home s f → (k : Int) ≤ val m x y s f →
    ∃ Ps : List (List Nat), Ps.length = k ∧ (∀ es ∈ Ps, (∃ v vs, Wk (Joined m x y cl) s v vs es ∧ Home v) ∧ ∀ e ∈ es, f e ≠ 0) ∧ Ps.Pairwise (fun a b => ∀ e ∈ a, e ∉ b) := by
  intro k
  induction k with
  | zero => intro f hf hk; exact ⟨[], rfl, (fun es he => by cases he), List.Pairwise.nil⟩
  | succ k ih =>
    intro f hf hk
    obtain ⟨v, vs, es, g, h1, h2, h3, h4, h5, h6⟩ := peel m n x y cl hxy Home s hf hs hns (by omega)
    obtain ⟨Ps, p1, p2, p3⟩ := ih g h5 (by omega)
    have hg : ∀ e, g e ≠ 0 → e ∉ es := fun e hge he => hge (h3 e he).2
    refine ⟨es :: Ps, by rw [List.length_cons, p1], fun a ha => ?_, List.pairwise_cons.2 ⟨fun b hb e he heb => hg e ((p2 b hb).2 e heb) he, p3⟩⟩
    rcases List.mem_cons.1 ha with rfl | ha
    · exact ⟨⟨v, vs, h1, h2⟩, fun e he => (h3 e he).1⟩
    · refine ⟨(p2 a ha).1, fun e he => ?_⟩
      have := (p2 a ha).2 e he
      rw [← h4 e (hg e this)]; exact this
def cross (R : Nat → Bool) (e : Nat) : Bool := cl e && (R (x e) != R (y e))
include hxy in
theorem menger (hs : s < n) (hns : ¬ Home s) (k : Nat) (hcut : ∀ R : Nat → Bool, R s = true → (∀ v, v < n → R v = true → ¬ Home v) → (k : Int) ≤ sm m (fun e => if cross x y cl R e then 1 else 0)) :
    ∃ Ps : List (List Nat), Ps.length = k ∧ (∀ es ∈ Ps, ∃ v vs, Wk (Joined m x y cl) s v vs es ∧ Home v) ∧ Ps.Pairwise (fun a b => ∀ e ∈ a, e ∉ b) := by
  have hflow : ∀ j : Nat, j ≤ k → ∃ f, Flow m n x y cl Home s f ∧ val m x y s f = (j : Int) := by
    intro j
    induction j with
    | zero =>
      intro _
      have hz : ∀ v, net m x y (fun _ => 0) v = 0 := fun v => sm_zero m (fun e he => by unfold dv; split <;> simp)
      exact ⟨fun _ => 0, ⟨fun e he => absurd rfl he, fun e => ⟨by decide, by decide⟩, fun v _ _ _ => hz v⟩, by unfold val; rw [hz]; rfl⟩
    | succ j ih =>
      intro hj
      obtain ⟨f, hf, hv⟩ := ih (by omega)
      by_cases hex : ∃ v, v < n ∧ Home v ∧ Rch (fun e u v => Joined m x y cl e u v ∧ f e ≠ sg y e v) s v
      · obtain ⟨v, _, hh, hr⟩ := hex
        obtain ⟨g, hg, hgv⟩ := augment m n x y cl hxy Home s hf hns hh hr
        exact ⟨g, hg, by rw [hgv, hv]; omega⟩
      · exfalso
        let R : Nat → Bool := fun v => @decide (Rch (fun e u v => Joined m x y cl e u v ∧ f e ≠ sg y e v) s v) (Classical.propDecidable _)
        have hR : ∀ v, R v = true ↔ Rch (fun e u v => Joined m x y cl e u v ∧ f e ≠ sg y e v) s v := fun v => by simp [R]
        have hRs := (hR s).2 Rch.src
        have hRh : ∀ v, v < n → R v = true → ¬ Home v := fun v hv hr hh => hex ⟨v, hv, hh, (hR v).1 hr⟩
        have e1 := exchange m n x y hxy f R
        rw [out_of m n x y cl Home s hf hs R hRs hRh, hv] at e1
        have e2 : sm m (fun e => f e * ((if R (y e) then 1 else 0) - (if R (x e) then 1 else 0))) + sm m (fun e => if cross x y cl R e then 1 else 0) = 0 := by
          rw [← sm_add]
          refine sm_zero m (fun e he => ?_)
          obtain ⟨h1, h2, h3⟩ := hxy e he
          unfold cross
          by_cases hc : cl e = true
          · by_cases a : R (y e) = true
            · by_cases b : R (x e) = true
              · simp [a, b, hc]
              · have : f e = sg y e (x e) := Classical.byContradiction (fun hne => b ((hR _).2 (Rch.step ((hR _).1 a) ⟨⟨he, hc, .inr ⟨rfl, rfl⟩⟩, hne⟩)))
                unfold sg at this
                rw [if_neg (Ne.symm h3)] at this
                simp [a, b, hc, this]
            · by_cases b : R (x e) = true
              · have : f e = sg y e (y e) := Classical.byContradiction (fun hne => a ((hR _).2 (Rch.step ((hR _).1 b) ⟨⟨he, hc, .inl ⟨rfl, rfl⟩⟩, hne⟩)))
                unfold sg at this
                rw [if_pos rfl] at this
                simp [a, b, hc, this]
              · simp [a, b, hc]
          · have : f e = 0 := Classical.byContradiction (fun hne => hc (hf.zero e hne).2)
            simp [this, hc]
        have := hcut R hRs hRh
        omega
  obtain ⟨f, hf, hv⟩ := hflow k (Nat.le_refl _)
  obtain ⟨Ps, p1, p2, p3⟩ := paths_of m n x y cl hxy Home s hs hns k f hf (by omega)
  exact ⟨Ps, p1, fun es he => (p2 es he).1, p3⟩
end
end Go.Proofs.YtoilhnmdemnknaaDoor.Menger

/- Feeds: which lists are some that are apart, all feeds of a section, and a choice of them. -/
namespace Go.Proofs.YtoilhnmdemnknaaDoor.Plain
set_option linter.unusedVariables false
set_option linter.unusedSimpArgs false
open Go.RowKit Go.Proofs.YtoilhnmdemnknaaDoor.XFeed Go.Proofs.YtoilhnmdemnknaaDoorW.PrintWords Go.Proofs.YtoilhnmdemnknaaDoorW.PrintLast Go.Proofs.YtoilhnmdemnknaaDoorW.PrintMore
open Classical Go.Proofs.YtoilhnmdemnknaaDoor.Menger

def sx (sw : List S69) (e : Nat) : Nat := match sw[e]? with | some s => s.f0.toNat | none => 0
def sy (sw : List S69) (e : Nat) : Nat := match sw[e]? with | some s => s.f1.toNat | none => 0
theorem sx_eq {sw : List S69} {e : Nat} (h : e < sw.length) : sx sw e = sw[e].f0.toNat := by unfold sx; rw [List.getElem?_eq_getElem h]
theorem sy_eq {sw : List S69} {e : Nat} (h : e < sw.length) : sy sw e = sw[e].f1.toNat := by unfold sy; rw [List.getElem?_eq_getElem h]
def walkTo (sw : List S69) (st : Nat) : Nat → Nat → List Int → Option Nat
  | now, _, [] => some now
  | now, been, v :: t =>
    if 0 ≤ v ∧ v < (sw.length : Int) ∧ st.testBit v.toNat = true then
      (if now = sx sw v.toNat then (if been.testBit (sy sw v.toNat) = true then none else walkTo sw st (sy sw v.toNat) (been ||| 2 ^ sy sw v.toNat) t)
       else if now = sy sw v.toNat then (if been.testBit (sx sw v.toNat) = true then none else walkTo sw st (sx sw v.toNat) (been ||| 2 ^ sx sw v.toNat) t)
       else none)
    else none
def endR : Option Nat → Int × Bool
  | some a => ((a : Int), true)
  | none => (0, false)
theorem pow8 {j n : Nat} (h : j < n) (hn : n ≤ 8) : 2 ^ j < 256 := Nat.lt_of_lt_of_le (Nat.pow_lt_pow_right (by decide) (show j < 8 by omega)) (by decide)
theorem or8 {a b : Nat} (ha : a < 256) (hb : b < 256) : a ||| b < 256 := Nat.or_lt_two_pow (n := 8) ha hb
theorem shl_u1 {j n : Nat} (h : j < n) (hn : n ≤ 8) : shl .u64 1 (j : Int) = ((2 ^ j : Nat) : Int) := by
  have := pow8 h hn
  rw [show (1 : Int) = ((1 : Nat) : Int) from rfl, shl_u (by omega) (by omega), Nat.one_shiftLeft]
section
variable {n : Nat} {sw : List S69} {fe : List S71} (h : GridOk (n : Int) sw fe) {st : Nat} (hst : st < 2 ^ sw.length)
include h hst
theorem end_l0 (l : List Int) (hl : l.length ≤ 1000) : ∀ (d i now been : Nat), i + d = l.length → now < n → been < 256 →
    Ev (fun k => feed_grid_end.l0 k (st : Int) (now : Int) (been : Int) l (l.length : Int) (i : Int) (n : Int) sw fe) (endR (walkTo sw st now been (l.drop i))) := by
  have hp := pow_le10 h
  have hlen := h.2.2.1
  have hn8 : n ≤ 8 := by have := h.2.1; omega
  have hsw := h.swn
  intro d
  induction d with
  | zero =>
    intro i now been hi hnow hb
    obtain rfl : i = l.length := by omega
    rw [List.drop_length]
    refine Ev.step (fun k => by rw [feed_grid_end.l0]) ?_
    exact ev_neg (by omega) (Ev.now _)
  | succ d ih =>
    intro i now been hi hnow hb
    have hil : i < l.length := by omega
    rw [drop_cons hil]
    have no : Ev (fun k => feed_grid_end.j1 k (st : Int) (now : Int) (been : Int) l[i] l (l.length : Int) (i : Int) true (n : Int) sw fe) (0, false) := by
      refine Ev.step (fun k => by rw [feed_grid_end.j1]) ?_
      exact ev_pos rfl (Ev.now _)
    refine Ev.step (fun k => by rw [feed_grid_end.l0]) ?_
    rw [rd_get hil, within_f, wrap_id (x := (sw.length : Int) - 1) (by omega) (by omega)]
    refine ev_pos (by omega) (ev_pos (by omega) (ev_pos (by omega) (ev_some ?_)))
    by_cases hr : 0 ≤ l[i] ∧ l[i] < (sw.length : Int)
    · refine ev_pos (decide_eq_true (by omega)) (ev_pos hr.1 ?_)
      obtain ⟨v, hv⟩ := Int.eq_ofNat_of_zero_le hr.1
      rw [hv] at hr no ⊢
      have hvl : v < sw.length := by omega
      rw [bit_i (by omega) (by omega)]
      by_cases hbt : st.testBit v = true
      · have e1 : (((if st.testBit v = true then 1 else 0 : Int)) == 0) = false := by rw [if_pos hbt]; rfl
        rw [e1]
        obtain ⟨x0, x1, y0, y1, hxy⟩ := hsw sw[v] (List.getElem_mem hvl)
        have ex := sx_eq hvl
        have ey := sy_eq hvl
        have fx : sw[v].f0 = ((sx sw v : Nat) : Int) := by rw [ex]; omega
        have fy : sw[v].f1 = ((sy sw v : Nat) : Int) := by rw [ey]; omega
        have hxn : sx sw v < n := by omega
        have hyn : sy sw v < n := by omega
        have px := pow8 hxn hn8
        have py := pow8 hyn hn8
        have bx := or8 hb px
        have bY := or8 hb py
        have ox : Go.bits .or .u64 (been : Int) (shl .u64 1 ((sx sw v : Nat) : Int)) = ((been ||| 2 ^ sx sw v : Nat) : Int) := by rw [shl_u1 hxn hn8, or_u (by omega) (by omega)]
        have oy : Go.bits .or .u64 (been : Int) (shl .u64 1 ((sy sw v : Nat) : Int)) = ((been ||| 2 ^ sy sw v : Nat) : Int) := by rw [shl_u1 hyn hn8, or_u (by omega) (by omega)]
        have tx := bit_u (x := been) (i := sx sw v) (by omega) (by omega)
        have ty := bit_u (x := been) (i := sy sw v) (by omega) (by omega)
        refine Ev.step (fun k => by rw [feed_grid_end.j1]) (ev_neg (by simp) ?_)
        rw [rd_S69 sw v hvl, fx, fy, ox, oy, tx, ty, wrap_succ i (by omega)]
        refine ev_pos (by omega) (ev_pos (by omega) ?_)
        rw [walkTo]
        have hc : 0 ≤ (v : Int) ∧ (v : Int) < (sw.length : Int) ∧ st.testBit (v : Int).toNat = true := ⟨by omega, by omega, by rw [Int.toNat_natCast]; exact hbt⟩
        by_cases c1 : now = sx sw v
        · refine ev_pos (by omega) (ev_pos (by omega) ?_)
          rw [if_pos hc, Int.toNat_natCast, if_pos c1]
          by_cases c2 : been.testBit (sy sw v) = true
          · rw [if_pos c2, if_pos c2]; exact ev_pos rfl (Ev.now _)
          · rw [if_neg c2, if_neg c2]; exact ev_neg (by decide) (ih (i + 1) _ _ (by omega) hyn bY)
        · refine ev_neg (by omega) ?_
          by_cases c3 : now = sy sw v
          · refine ev_pos (by omega) (ev_pos (by omega) ?_)
            rw [if_pos hc, Int.toNat_natCast, if_neg c1, if_pos c3]
            by_cases c2 : been.testBit (sx sw v) = true
            · rw [if_pos c2, if_pos c2]; exact ev_pos rfl (Ev.now _)
            · rw [if_neg c2, if_neg c2]; exact ev_neg (by decide) (ih (i + 1) _ _ (by omega) hxn bx)
          · refine ev_neg (by omega) ?_
            rw [if_pos hc, Int.toNat_natCast, if_neg c1, if_neg c3]
            exact Ev.now _
      · have e1 : (((if st.testBit v = true then 1 else 0 : Int)) == 0) = true := by rw [if_neg hbt]; rfl
        rw [e1, walkTo, if_neg (fun e => hbt (by have := e.2.2; rwa [Int.toNat_natCast] at this))]
        exact no
    · refine ev_neg (by simp only [decide_eq_true_eq]; omega) ?_
      rw [walkTo, if_neg (fun e => hr ⟨e.1, e.2.1⟩)]
      exact no
theorem end_val (l : List Int) (hl : l.length ≤ 1000) {a : Nat} (ha : a < n) : Ev (fun k => feed_grid_end.f k (n : Int) sw fe (st : Int) (a : Int) l) (endR (walkTo sw st a (2 ^ a) l)) := by
  have hn8 : n ≤ 8 := by have := h.2.1; omega
  have := end_l0 h hst l hl l.length 0 a (2 ^ a) (by omega) ha (pow8 ha hn8)
  rw [List.drop_zero] at this
  unfold feed_grid_end.f
  rw [shl_u1 ha hn8]
  exact ev_pos (by omega) this
omit h hst in
theorem bl_set1 {n m y : Nat} (hy : y < n) : (bl n m).set y true = bl n (m ||| 2 ^ y) := by
  apply List.ext_getElem
  · simp [bl]
  · intro i h1 h2
    simp only [bl, List.getElem_set, List.getElem_map, List.getElem_range, Nat.testBit_or, Nat.testBit_two_pow]
    by_cases a : y = i
    · subst a; simp
    · simp [a]
theorem leads_l0 (l : List Int) (hl : l.length ≤ 1000) (sec : Nat) : ∀ (d i now been : Nat), i + d = l.length → now < n → been < 256 →
    Ev (fun k => dropperref05_leads.l0 k (st : Int) (sec : Int) l (bl n been) (now : Int) (i : Int) (n : Int) sw fe) (decide (walkTo sw st now been (l.drop i) = some sec)) := by
  have hp := pow_le10 h
  have hlen := h.2.2.1
  have hn8 : n ≤ 8 := by have := h.2.1; omega
  have hsw := h.swn
  intro d
  induction d with
  | zero =>
    intro i now been hi hnow hb
    obtain rfl : i = l.length := by omega
    rw [List.drop_length]
    refine Ev.step (fun k => by rw [dropperref05_leads.l0]) ?_
    refine ev_neg (by omega) (ev_const (congrArg some ?_))
    rw [walkTo, Bool.eq_iff_iff, beq_iff_eq, decide_eq_true_eq, Option.some.injEq]; omega
  | succ d ih =>
    intro i now been hi hnow hb
    have hil : i < l.length := by omega
    have hL := bl_len n been
    rw [drop_cons hil]
    have no : Ev (fun k => dropperref05_leads.j1 k (st : Int) (sec : Int) l (bl n been) (now : Int) (i : Int) true (n : Int) sw fe) false := by
      refine Ev.step (fun k => by rw [dropperref05_leads.j1]) ?_
      exact ev_pos rfl (Ev.now _)
    refine Ev.step (fun k => by rw [dropperref05_leads.l0]) ?_
    rw [rd_get hil]
    refine ev_pos (by omega) (ev_pos (by omega) ?_)
    by_cases h0 : l[i] < 0
    · refine ev_pos h0 ?_
      rw [walkTo, if_neg (fun e => by have := e.1; omega)]
      exact no
    refine ev_neg h0 ?_
    by_cases h1 : l[i] ≥ (sw.length : Int)
    · refine ev_pos h1 ?_
      rw [walkTo, if_neg (fun e => by have := e.2.1; omega)]
      exact no
    refine ev_neg h1 ?_
    obtain ⟨v, hv⟩ := Int.eq_ofNat_of_zero_le (show 0 ≤ l[i] by omega)
    rw [hv] at h0 h1 ⊢
    have hvl : v < sw.length := by omega
    rw [closed_f (by omega) (by omega)]
    refine ev_some ?_
    by_cases hbt : st.testBit v = true
    · obtain ⟨x0, x1, y0, y1, hxy⟩ := hsw sw[v] (List.getElem_mem hvl)
      have ex := sx_eq hvl
      have ey := sy_eq hvl
      have fx : sw[v].f0 = ((sx sw v : Nat) : Int) := by rw [ex]; omega
      have fy : sw[v].f1 = ((sy sw v : Nat) : Int) := by rw [ey]; omega
      have hxn : sx sw v < n := by omega
      have hyn : sy sw v < n := by omega
      have bx := or8 hb (pow8 hxn hn8)
      have bY := or8 hb (pow8 hyn hn8)
      have e1 : (!st.testBit v) = false := by rw [hbt]; rfl
      rw [e1]
      refine Ev.step (fun k => by rw [dropperref05_leads.j1]) (ev_neg (by simp) ?_)
      rw [rd_get hil, hv, rd_S69 sw v hvl, fx, fy, rd_bl hxn, rd_bl hyn, Int.toNat_natCast, Int.toNat_natCast, bl_set1 hxn, bl_set1 hyn, wrap_succ i (by omega), hL]
      refine ev_pos (by omega) (ev_pos (by omega) (ev_pos (by omega) (ev_pos (by omega) ?_)))
      rw [walkTo]
      have hc : 0 ≤ (v : Int) ∧ (v : Int) < (sw.length : Int) ∧ st.testBit (v : Int).toNat = true := ⟨by omega, by omega, by rw [Int.toNat_natCast]; exact hbt⟩
      by_cases c1 : now = sx sw v
      · refine ev_pos (by omega) (ev_pos (by omega) (ev_pos (by omega) ?_))
        rw [if_pos hc, Int.toNat_natCast, if_pos c1]
        by_cases c2 : been.testBit (sy sw v) = true
        · rw [if_pos c2]; exact ev_pos c2 (ev_const (by simp))
        · rw [if_neg c2]; exact ev_neg c2 (ih (i + 1) _ _ (by omega) hyn bY)
      · refine ev_neg (by omega) ?_
        by_cases c3 : now = sy sw v
        · refine ev_pos (by omega) (ev_pos (by omega) (ev_pos (by omega) ?_))
          rw [if_pos hc, Int.toNat_natCast, if_neg c1, if_pos c3]
          by_cases c2 : been.testBit (sx sw v) = true
          · rw [if_pos c2]; exact ev_pos c2 (ev_const (by simp))
          · rw [if_neg c2]; exact ev_neg c2 (ih (i + 1) _ _ (by omega) hxn bx)
        · refine ev_neg (by omega) ?_
          rw [if_pos hc, Int.toNat_natCast, if_neg c1, if_neg c3]
          exact ev_const (by simp)
    · have e1 : (!st.testBit v) = true := by simp [hbt]
      rw [e1, walkTo, if_neg (fun e => hbt (by have := e.2.2; rwa [Int.toNat_natCast] at this))]
      exact no
theorem leads_val (l : List Int) (hl : l.length ≤ 1000) (sec : Nat) {a : Nat} (ha : a < n) : Ev (fun k => dropperref05_leads.f k (n : Int) sw fe (st : Int) (a : Int) (sec : Int) l) (decide (walkTo sw st a (2 ^ a) l = some sec)) := by
  have hn8 : n ≤ 8 := by have := h.2.1; omega
  have := leads_l0 h hst l hl sec l.length 0 a (2 ^ a) (by omega) ha (pow8 ha hn8)
  rw [List.drop_zero] at this
  have e : (List.replicate n false).set a true = bl n (2 ^ a) := by
    have e0 : List.replicate n false = bl n 0 := by
      apply List.ext_getElem
      · simp [bl]
      · intro i h1 h2; simp [bl]
    rw [e0, bl_set1 ha, Nat.zero_or]
  have hL : (List.replicate n false).length = n := List.length_replicate
  unfold dropperref05_leads.f
  rw [Int.toNat_natCast, Int.toNat_natCast]
  refine ev_pos (by omega) (ev_pos (by omega) (ev_some ?_))
  refine ev_pos (by omega) (ev_pos (by rw [hL]; omega) ?_)
  rw [e]
  exact this
def feedB (sw : List S69) (fe : List S71) (st sec : Nat) (l : List Int) : Bool := fe.any fun f => decide (walkTo sw st f.f0.toNat (2 ^ f.f0.toNat) l = some sec)
omit h hst in
theorem ev_list {α : Type} (P : α → Nat → Prop) : ∀ xs : List α, (∀ x ∈ xs, ∃ K, ∀ k, K ≤ k → P x k) → ∃ K, ∀ k, K ≤ k → ∀ x ∈ xs, P x k
  | [], _ => ⟨0, fun _ _ x hx => by cases hx⟩
  | a :: t, h => by
    obtain ⟨K1, h1⟩ := h a (List.mem_cons_self ..)
    obtain ⟨K2, h2⟩ := ev_list P t (fun x hx => h x (List.mem_cons_of_mem _ hx))
    refine ⟨K1 + K2, fun k hk x hx => ?_⟩
    rcases List.mem_cons.1 hx with rfl | hx
    · exact h1 k (by omega)
    · exact h2 k (by omega) x hx
theorem isFeed_val (sec : Nat) (l : List Int) (hl : l.length ≤ 1000) : Ev (fun k => feed_grid_isFeed.f k (n : Int) sw fe (st : Int) (sec : Int) l) (feedB sw fe st sec l) := by
  have hx : ∀ f ∈ fe, ∃ K, ∀ k, K ≤ k → feed_grid_end.f k (n : Int) sw fe (st : Int) f.f0 l = some (endR (walkTo sw st f.f0.toNat (2 ^ f.f0.toNat) l)) := fun f hf => by
    obtain ⟨f0, f1, _, _⟩ := h.fe f hf
    have := end_val h hst l hl (a := f.f0.toNat) (by omega)
    rw [Int.toNat_of_nonneg f0] at this
    exact this
  obtain ⟨K, hK⟩ := ev_list (fun f k => feed_grid_end.f k (n : Int) sw fe (st : Int) f.f0 l = some (endR (walkTo sw st f.f0.toNat (2 ^ f.f0.toNat) l))) fe hx
  refine ⟨K, fun k hk => ?_⟩
  have hk := hK k hk
  show feed_grid_isFeed.f k (n : Int) sw fe (st : Int) (sec : Int) l = some (feedB sw fe st sec l)
  unfold feed_grid_isFeed.f
  rw [if_pos (List.all_eq_true.2 fun f hf => by rw [hk f hf]; rfl)]
  congr 1
  unfold feedB
  have : ∀ f ∈ fe, feed_grid_isFeed.p k (n : Int) sw fe (st : Int) (sec : Int) l f = decide (walkTo sw st f.f0.toNat (2 ^ f.f0.toNat) l = some sec) := fun f hf => by
    unfold feed_grid_isFeed.p
    rw [hk f hf]
    cases hw : walkTo sw st f.f0.toNat (2 ^ f.f0.toNat) l with
    | none => simp [endR]
    | some a =>
      simp only [endR, Bool.true_and, Option.some.injEq]
      rw [Bool.eq_iff_iff, beq_iff_eq, decide_eq_true_eq]; omega
  rw [Bool.eq_iff_iff, List.any_eq_true, List.any_eq_true]
  exact ⟨fun ⟨f, hf, hb⟩ => ⟨f, hf, by rw [← this f hf]; exact hb⟩, fun ⟨f, hf, hb⟩ => ⟨f, hf, by rw [this f hf]; exact hb⟩⟩
theorem risFeed_l0 (sec : Nat) (l : List Int) (hl : l.length ≤ 1000) : ∀ (d i : Nat), i + d = fe.length → (∀ j (h : j < fe.length), j < i → walkTo sw st fe[j].f0.toNat (2 ^ fe[j].f0.toNat) l ≠ some sec) →
    Ev (fun k => dropperref05_isFeed.l0 k (st : Int) (sec : Int) l (i : Int) (n : Int) sw fe) (feedB sw fe st sec l) := by
  have hfl := h.2.2.2.1
  intro d
  induction d with
  | zero =>
    intro i hi hb
    refine Ev.step (fun k => by rw [dropperref05_isFeed.l0]) ?_
    refine ev_neg (by omega) (ev_const (congrArg some ?_))
    symm
    unfold feedB
    rw [List.any_eq_false]
    intro f hf
    obtain ⟨j, hj, rfl⟩ := List.mem_iff_getElem.1 hf
    simpa using hb j hj (by omega)
  | succ d ih =>
    intro i hi hb
    have hil : i < fe.length := by omega
    obtain ⟨f0, f1, _, _⟩ := h.fe _ (List.getElem_mem hil)
    have lv := leads_val h hst l hl sec (a := fe[i].f0.toNat) (by omega)
    rw [Int.toNat_of_nonneg f0] at lv
    refine Ev.step (fun k => by rw [dropperref05_isFeed.l0]) ?_
    rw [rd_S71 fe i hil, wrap_succ i (by omega)]
    refine ev_pos (by omega) (ev_pos (by omega) (Ev.bind lv ?_))
    by_cases hw : walkTo sw st fe[i].f0.toNat (2 ^ fe[i].f0.toNat) l = some sec
    · refine ev_pos (decide_eq_true hw) (ev_const (congrArg some ?_))
      symm
      unfold feedB
      exact List.any_eq_true.2 ⟨_, List.getElem_mem hil, decide_eq_true hw⟩
    · refine ev_neg (by simpa using hw) (ih (i + 1) (by omega) (fun j hj hji => ?_))
      by_cases e : j < i
      · exact hb j hj e
      · obtain rfl : j = i := by omega
        exact hw
theorem risFeed_val (sec : Nat) (l : List Int) (hl : l.length ≤ 1000) : Ev (fun k => dropperref05_isFeed.f k (n : Int) sw fe (st : Int) (sec : Int) l) (feedB sw fe st sec l) := by
  unfold dropperref05_isFeed.f
  exact risFeed_l0 h hst sec l hl fe.length 0 (by omega) (fun j hj h0 => by omega)
end
theorem walkTo_range {sw : List S69} {st : Nat} : ∀ {l : List Int} {now been a : Nat}, walkTo sw st now been l = some a → ∀ v ∈ l, 0 ≤ v ∧ v < (sw.length : Int)
  | [], _, _, _, _, _, hv => by cases hv
  | w :: t, now, been, a, hw, v, hv => by
    rw [walkTo] at hw
    by_cases hc : 0 ≤ w ∧ w < (sw.length : Int) ∧ st.testBit w.toNat = true
    · rw [if_pos hc] at hw
      rcases List.mem_cons.1 hv with rfl | hv
      · exact ⟨hc.1, hc.2.1⟩
      · split at hw
        · split at hw
          · cases hw
          · exact walkTo_range hw v hv
        · split at hw
          · split at hw
            · cases hw
            · exact walkTo_range hw v hv
          · cases hw
    · rw [if_neg hc] at hw; cases hw
theorem feedB_range {sw : List S69} {fe : List S71} {st sec : Nat} {l : List Int} (h : feedB sw fe st sec l = true) : ∀ v ∈ l, 0 ≤ v ∧ v < (sw.length : Int) := by
  obtain ⟨f, hf, hb⟩ := List.any_eq_true.1 h
  exact walkTo_range (of_decide_eq_true hb)
def once (used : Nat) : List Int → Option Nat
  | [] => some used
  | v :: t => if used.testBit v.toNat = true then none else once (used ||| 2 ^ v.toNat) t
def areB (sw : List S69) (fe : List S71) (st sec : Nat) : Nat → List (List Int) → Bool
  | _, [] => true
  | used, l :: t => feedB sw fe st sec l && (match once used l with | some u => areB sw fe st sec u t | none => false)
theorem rdL {ls : List (List Int)} {i : Nat} (h : i < ls.length) : rd_L4 ls (i : Int) = ls[i] := by simp [rd_L4, List.getD_eq_getElem?_getD, h]
section
variable {n : Nat} {sw : List S69} {fe : List S71} (h : GridOk (n : Int) sw fe) {st : Nat} (hst : st < 2 ^ sw.length)
include h hst
theorem are_l1 (sec : Nat) (ls : List (List Int)) (hls : ls.length ≤ 100) (q : Nat) (hq : q < ls.length) (hr : ∀ v ∈ ls[q], 0 ≤ v ∧ v < (sw.length : Int)) (hl : ls[q].length ≤ 1000)
    (r1 r2 : Nat → Bool × Int)
    (hend : ∀ u : Nat, u < 2 ^ sw.length → Ev (fun k => feed_AreFeeds.l0 k (st : Int) (sec : Int) ls (u : Int) ls (ls.length : Int) ((q + 1 : Nat) : Int) (n : Int) sw fe) (r1 u) ∧ Ev (fun k => dropperref05_AreFeeds.l0 k (st : Int) (sec : Int) ls (bl sw.length u) ((q + 1 : Nat) : Int) (n : Int) sw fe) (r2 u)) :
    ∀ (d i u : Nat), i + d = ls[q].length → u < 2 ^ sw.length →
    Ev (fun k => feed_AreFeeds.l1 k (st : Int) (sec : Int) ls (u : Int) ls (ls.length : Int) (q : Int) ls[q] (ls[q].length : Int) (i : Int) (n : Int) sw fe) (match once u (ls[q].drop i) with | some u' => r1 u' | none => (false, 0)) ∧
    Ev (fun k => dropperref05_AreFeeds.l1 k (st : Int) (sec : Int) ls (bl sw.length u) (q : Int) (i : Int) (n : Int) sw fe) (match once u (ls[q].drop i) with | some u' => r2 u' | none => (false, 0)) := by
  have hst_ := hst
  have hp := pow_le10 h
  have hlen := h.2.2.1
  intro d
  induction d with
  | zero =>
    intro i u hi hu
    obtain rfl : i = ls[q].length := by omega
    obtain ⟨e1, e2⟩ := hend u hu
    rw [List.drop_length]
    constructor
    · refine Ev.step (fun k => by rw [feed_AreFeeds.l1]) ?_
      rw [wrap_succ q (by omega)]
      exact ev_neg (by omega) e1
    · refine Ev.step (fun k => by rw [dropperref05_AreFeeds.l1]) ?_
      rw [rdL hq, wrap_succ q (by omega)]
      exact ev_pos (by omega) (ev_pos (by omega) (ev_neg (by omega) e2))
  | succ d ih =>
    intro i u hi hu
    have hil : i < ls[q].length := by omega
    obtain ⟨a, b⟩ := hr _ (List.getElem_mem hil)
    obtain ⟨v, hv⟩ := Int.eq_ofNat_of_zero_le a
    rw [hv] at b
    have hvl : v < sw.length := by omega
    have hpv : 2 ^ v < 2 ^ sw.length := Nat.pow_lt_pow_right (by decide) hvl
    have hor : u ||| 2 ^ v < 2 ^ sw.length := Nat.or_lt_two_pow hu hpv
    have hL := bl_len sw.length u
    rw [drop_cons hil, once, hv, Int.toNat_natCast]
    have c1 : ∀ r : Bool × Int, (∀ (hno : ¬ u.testBit v = true), Ev (fun k => feed_AreFeeds.l1 k (st : Int) (sec : Int) ls ((u ||| 2 ^ v : Nat) : Int) ls (ls.length : Int) (q : Int) ls[q] (ls[q].length : Int) ((i + 1 : Nat) : Int) (n : Int) sw fe) r) → (u.testBit v = true → r = (false, 0)) →
        Ev (fun k => feed_AreFeeds.l1 k (st : Int) (sec : Int) ls (u : Int) ls (ls.length : Int) (q : Int) ls[q] (ls[q].length : Int) (i : Int) (n : Int) sw fe) r := by
      intro r hn hy
      refine Ev.step (fun k => by rw [feed_AreFeeds.l1]) ?_
      rw [rd_get hil, hv, wrap_succ i (by omega), bit_i (by omega) (by omega), shl_one v (by omega), or_i (by omega) (by omega)]
      refine ev_pos (by omega) (ev_pos (by omega) (ev_pos (by omega) (ev_pos (by omega) ?_)))
      by_cases hb : u.testBit v = true
      · rw [if_pos hb, hy hb]; exact ev_pos rfl (Ev.now _)
      · rw [if_neg hb]; exact ev_neg (by decide) (hn hb)
    have c2 : ∀ r : Bool × Int, (∀ (hno : ¬ u.testBit v = true), Ev (fun k => dropperref05_AreFeeds.l1 k (st : Int) (sec : Int) ls (bl sw.length (u ||| 2 ^ v)) (q : Int) ((i + 1 : Nat) : Int) (n : Int) sw fe) r) → (u.testBit v = true → r = (false, 0)) →
        Ev (fun k => dropperref05_AreFeeds.l1 k (st : Int) (sec : Int) ls (bl sw.length u) (q : Int) (i : Int) (n : Int) sw fe) r := by
      intro r hn hy
      refine Ev.step (fun k => by rw [dropperref05_AreFeeds.l1]) ?_
      rw [rdL hq, rd_get hil, hv, rd_bl hvl, Int.toNat_natCast, bl_set1 hvl, wrap_succ i (by omega), hL]
      refine ev_pos (by omega) (ev_pos (by omega) (ev_pos (by omega) (ev_pos (by omega) (ev_pos (by omega) (ev_pos (by omega) ?_)))))
      by_cases hb : u.testBit v = true
      · rw [hy hb]; exact ev_pos hb (Ev.now _)
      · exact ev_neg hb (hn hb)
    obtain ⟨i1, i2⟩ := ih (i + 1) (u ||| 2 ^ v) (by omega) hor
    constructor
    · refine c1 _ (fun hb => ?_) (fun hb => by rw [if_pos hb])
      rw [if_neg hb]; exact i1
    · refine c2 _ (fun hb => ?_) (fun hb => by rw [if_pos hb])
      rw [if_neg hb]; exact i2
theorem are_l0 (sec : Nat) (ls : List (List Int)) (hls : ls.length ≤ 100) (hl : ∀ l ∈ ls, l.length ≤ 1000) : ∀ (d q u : Nat), q + d = ls.length → u < 2 ^ sw.length →
    Ev (fun k => feed_AreFeeds.l0 k (st : Int) (sec : Int) ls (u : Int) ls (ls.length : Int) (q : Int) (n : Int) sw fe) (areB sw fe st sec u (ls.drop q) && decide (ls.length ≤ 20), 0) ∧
    Ev (fun k => dropperref05_AreFeeds.l0 k (st : Int) (sec : Int) ls (bl sw.length u) (q : Int) (n : Int) sw fe) (areB sw fe st sec u (ls.drop q), 0) := by
  intro d
  induction d with
  | zero =>
    intro q u hq hu
    obtain rfl : q = ls.length := by omega
    rw [List.drop_length, areB]
    constructor
    · refine Ev.step (fun k => by rw [feed_AreFeeds.l0]) ?_
      refine ev_neg (by omega) (ev_const ?_)
      congr 2
      rw [Bool.true_and, decide_eq_decide]; omega
    · refine Ev.step (fun k => by rw [dropperref05_AreFeeds.l0]) ?_
      exact ev_neg (by omega) (Ev.now _)
  | succ d ih =>
    intro q u hq hu
    have hql : q < ls.length := by omega
    have hlq := hl _ (List.getElem_mem hql)
    have f1 := isFeed_val h hst sec ls[q] hlq
    have f2 := risFeed_val h hst sec ls[q] hlq
    rw [show ls.drop q = ls[q] :: ls.drop (q + 1) from List.drop_eq_getElem_cons hql, areB]
    cases hf : feedB sw fe st sec ls[q] with
    | false =>
      rw [hf] at f1 f2
      rw [Bool.false_and, Bool.false_and]
      constructor
      · refine Ev.step (fun k => by rw [feed_AreFeeds.l0]) ?_
        rw [rdL hql]
        exact ev_pos (by omega) (ev_pos (by omega) (ev_pos (by omega) (Ev.bind f1 (ev_neg (by simp) (Ev.now _)))))
      · refine Ev.step (fun k => by rw [dropperref05_AreFeeds.l0]) ?_
        rw [rdL hql]
        exact ev_pos (by omega) (ev_pos (by omega) (Ev.bind f2 (ev_neg (by simp) (Ev.now _))))
    | true =>
      rw [hf] at f1 f2
      obtain ⟨a1, a2⟩ := are_l1 h hst sec ls hls q hql (feedB_range hf) hlq (fun u => (areB sw fe st sec u (ls.drop (q + 1)) && decide (ls.length ≤ 20), 0)) (fun u => (areB sw fe st sec u (ls.drop (q + 1)), 0)) (fun u hu => ih (q + 1) u (by omega) hu) ls[q].length 0 u (by omega) hu
      rw [List.drop_zero] at a1 a2
      rw [Bool.true_and]
      constructor
      · refine Ev.step (fun k => by rw [feed_AreFeeds.l0]) ?_
        rw [rdL hql]
        refine ev_pos (by omega) (ev_pos (by omega) (ev_pos (by omega) (Ev.bind f1 (ev_pos rfl ?_))))
        cases ho : once u ls[q] with
        | none => rw [ho] at a1; exact a1
        | some u' => rw [ho] at a1; exact a1
      · refine Ev.step (fun k => by rw [dropperref05_AreFeeds.l0]) ?_
        rw [rdL hql]
        refine ev_pos (by omega) (ev_pos (by omega) (Ev.bind f2 (ev_pos rfl ?_)))
        cases ho : once u ls[q] with
        | none => rw [ho] at a2; exact a2
        | some u' => rw [ho] at a2; exact a2
end
noncomputable def areR (N : Int) (sw : List S69) (fe : List S71) (st sec : Int) (ls : List (List Int)) : Bool := if errS N sw fe st sec = 0 then areB sw fe st.toNat sec.toNat 0 ls && decide (ls.length ≤ 20) else false
theorem are_val (N : Int) (sw : List S69) (fe : List S71) (hsl : sw.length ≤ 20) (st sec : Int) (ls : List (List Int)) (hls : ls.length ≤ 100) (hl : ∀ l ∈ ls, l.length ≤ 1000) :
    Ev (fun k => feed_AreFeeds.f k N sw fe st sec ls) (areR N sw fe st sec ls, errS N sw fe st sec) ∧ Ev (fun k => dropperref05_AreFeeds.f k N sw fe st sec ls) (areR N sw fe st sec ls, errS N sw fe st sec) := by
  unfold feed_AreFeeds.f dropperref05_AreFeeds.f areR
  rw [asked_val]
  by_cases h : errS N sw fe st sec = 0
  · rw [if_pos h, h]
    have hz := h
    obtain ⟨n, s, c, rfl, rfl, rfl, hg, hs, hc⟩ := errS_nat h
    have wv := why_val (n : Int) sw fe hsl (s : Int) (c : Int)
    rw [hz] at wv
    obtain ⟨a1, a2⟩ := are_l0 hg hs c ls hls hl ls.length 0 0 (by omega) (Nat.pow_pos (by decide))
    rw [List.drop_zero] at a1 a2
    have e0 : List.replicate sw.length false = bl sw.length 0 := by
      apply List.ext_getElem
      · simp [bl]
      · intro i h1 h2; simp [bl]
    rw [Int.toNat_natCast, Int.toNat_natCast]
    constructor
    · exact ev_some (ev_pos rfl a1)
    · refine Ev.bind wv (ev_pos rfl ?_)
      rw [Int.toNat_natCast]
      by_cases h20 : (ls.length : Int) > 20
      · rw [decide_eq_false (p := ls.length ≤ 20) (by omega), Bool.and_false]
        exact ev_pos h20 (Ev.now _)
      · rw [decide_eq_true (p := ls.length ≤ 20) (by omega), Bool.and_true, e0]
        exact ev_neg h20 (ev_pos (by omega) (ev_pos (by omega) a2))
  · rw [if_neg h]
    exact ⟨ev_some (ev_neg h (Ev.now _)), Ev.bind (why_val N sw fe hsl st sec) (ev_neg h (Ev.now _))⟩
theorem many_l0 (ls : List (List Int)) (hls : ls.length ≤ 25) : ∀ (d i : Nat), i + d = ls.length → (∀ j (h : j < ls.length), j < i → ls[j].length ≤ 30) → Ev (fun k => dropperlaw05_many.l0 k ls (i : Int)) (decide (∃ l ∈ ls, 30 < l.length)) := by
  intro d
  induction d with
  | zero =>
    intro i hi hb
    refine Ev.step (fun k => by rw [dropperlaw05_many.l0]) ?_
    refine ev_neg (by omega) (ev_const (congrArg some ?_))
    symm
    refine decide_eq_false (fun ⟨l, hl, hlt⟩ => ?_)
    obtain ⟨j, hj, rfl⟩ := List.mem_iff_getElem.1 hl
    have := hb j hj (by omega)
    omega
  | succ d ih =>
    intro i hi hb
    have hil : i < ls.length := by omega
    refine Ev.step (fun k => by rw [dropperlaw05_many.l0]) ?_
    rw [rdL hil, wrap_succ i (by omega)]
    refine ev_pos (by omega) (ev_pos (by omega) ?_)
    by_cases hg : (ls[i].length : Int) > 30
    · refine ev_pos hg (ev_const (congrArg some ?_))
      symm
      exact decide_eq_true ⟨_, List.getElem_mem hil, by omega⟩
    · refine ev_neg hg (ih (i + 1) (by omega) (fun j hj hji => ?_))
      by_cases e : j < i
      · exact hb j hj e
      · obtain rfl : j = i := by omega
        omega
theorem many_val (ls : List (List Int)) : Ev (fun k => dropperlaw05_many.f k ls) (decide (25 < ls.length ∨ ∃ l ∈ ls, 30 < l.length)) := by
  unfold dropperlaw05_many.f
  by_cases h : (ls.length : Int) > 25
  · rw [decide_eq_true (.inl (by omega))]
    exact ev_pos h (Ev.now _)
  · have e : (decide (25 < ls.length ∨ ∃ l ∈ ls, 30 < l.length)) = decide (∃ l ∈ ls, 30 < l.length) := by
      rw [decide_eq_decide]
      exact ⟨fun e => e.resolve_left (by omega), .inr⟩
    rw [e]
    exact ev_neg h (many_l0 ls (by omega) ls.length 0 (by omega) (fun j hj h0 => by omega))
end Go.Proofs.YtoilhnmdemnknaaDoor.Plain

/- All feeds of a section, the choice of some that are apart, and that there are as many as an isolation has switches. -/
namespace Go.Proofs.YtoilhnmdemnknaaDoor.Plain
set_option linter.unusedVariables false
set_option linter.unusedSimpArgs false
open Go.RowKit Go.Proofs.YtoilhnmdemnknaaDoor.XFeed Go.Proofs.YtoilhnmdemnknaaDoorW.PrintWords Go.Proofs.YtoilhnmdemnknaaDoorW.PrintLast Go.Proofs.YtoilhnmdemnknaaDoorW.PrintMore
open Classical Go.Proofs.YtoilhnmdemnknaaDoor.Menger

/-! numbers as sets -/
def msk : List Nat → Nat
 | [] => 0
 | v :: t => msk t ||| 2 ^ v
theorem msk_bit (l : List Nat) (j : Nat) : (msk l).testBit j = true ↔ j ∈ l := by
 induction l with
 | nil => simp [msk]
 | cons v t ih => rw [msk, Nat.testBit_or, Bool.or_eq_true, ih, Nat.testBit_two_pow, decide_eq_true_eq, List.mem_cons]; exact ⟨fun h => h.elim .inr (fun e => .inl e.symm), fun h => h.elim (fun e => .inr e.symm) .inl⟩
theorem msk_lt {l : List Nat} {k : Nat} (h : ∀ v ∈ l, v < k) : msk l < 2 ^ k := by
 induction l with
 | nil => exact Nat.pow_pos (by decide)
 | cons v t ih => exact Nat.or_lt_two_pow (ih fun x hx => h x (List.mem_cons_of_mem _ hx)) (Nat.pow_lt_pow_right (by decide) (h v (List.mem_cons_self ..)))
theorem msk_apart {a b : List Nat} (h : ∀ e ∈ a, e ∉ b) : msk a &&& msk b = 0 := by
 apply Nat.eq_of_testBit_eq
 intro j
 rw [Nat.testBit_and, Nat.zero_testBit]
 cases ha : (msk a).testBit j with
 | false => rfl
 | true =>
  cases hb : (msk b).testBit j with
  | false => rfl
  | true => exact absurd ((msk_bit b j).1 hb) (h j ((msk_bit a j).1 ha))
theorem and_or_zero {a b c : Nat} (h1 : a &&& b = 0) (h2 : a &&& c = 0) : a &&& (b ||| c) = 0 := by
 apply Nat.eq_of_testBit_eq
 intro j
 have g1 := congrArg (fun z => z.testBit j) h1
 have g2 := congrArg (fun z => z.testBit j) h2
 simp only [Nat.testBit_and, Nat.testBit_or, Nat.zero_testBit] at g1 g2 ⊢
 cases ha : a.testBit j with
 | false => rfl
 | true =>
  rw [ha, Bool.true_and] at g1 g2
  rw [g1, g2]; rfl
def uv (m : Nat) : Nat → Nat
 | 0 => 0
 | n + 1 => uv m n + if m.testBit n = true then 0 else 1
theorem uv_or {m v : Nat} (hv : ¬ m.testBit v = true) : ∀ n, v < n → uv m n = uv (m ||| 2 ^ v) n + 1
 | 0, h => by omega
 | n + 1, h => by
  have far : ∀ k, k ≤ v → uv (m ||| 2 ^ v) k = uv m k := by
   intro k
   induction k with
   | zero => intro _; rfl
   | succ k ih =>
    intro hk
    rw [uv, uv, ih (by omega), Nat.testBit_or, Nat.testBit_two_pow, decide_eq_false (by omega), Bool.or_false]
  by_cases e : v = n
  ·
   subst e
   rw [uv, uv, far v (Nat.le_refl _), if_neg hv, if_pos (by rw [Nat.testBit_or, Nat.testBit_two_pow]; simp)]
  ·
   rw [uv, uv, uv_or hv n (by omega), Nat.testBit_or, Nat.testBit_two_pow, decide_eq_false (fun h => e h), Bool.or_false]
   omega
theorem uv_zero {m : Nat} : ∀ {n v : Nat}, uv m n = 0 → v < n → m.testBit v = true
 | 0, v, _, h => by omega
 | n + 1, v, hu, h => by
  rw [uv] at hu
  by_cases e : v = n
  ·
   subst e
   apply Classical.byContradiction
   intro hn
   rw [if_neg hn] at hu; omega
  ·
   exact uv_zero (n := n) (by split at hu <;> omega) (by omega)
theorem uv_le {m : Nat} : ∀ n, uv m n ≤ n
 | 0 => Nat.le_refl _
 | n + 1 => by have := uv_le (m := m) n; rw [uv]; split <;> omega

/-! all paths -/
def oth (sw : List S69) (i v : Nat) : Nat := if v = sx sw i then sy sw i else sx sw i
def goes (sw : List S69) (st v been i : Nat) : Bool := st.testBit i && (decide (v = sx sw i) || decide (v = sy sw i)) && !been.testBit (oth sw i v)
def pathsS (sw : List S69) (st : Nat) (home : Nat → Bool) : Nat → Nat → Nat → Nat → List Int → List S114
 | 0, v, been, set, l => if home v = true then [⟨(set : Int), l⟩] else []
 | d + 1, v, been, set, l => (if home v = true then [⟨(set : Int), l⟩] else []) ++ (List.range sw.length).flatMap fun i => if goes sw st v been i = true then pathsS sw st home d (oth sw i v) (been ||| 2 ^ oth sw i v) (set ||| 2 ^ i) ((i : Int) :: l) else []
theorem flat_le {α : Type} (B : Nat → List α) (M : Nat) (h : ∀ i, (B i).length ≤ M) : ∀ k, ((List.range k).flatMap B).length ≤ k * M
 | 0 => by simp
 | k + 1 => by
  have := flat_le B M h k
  have := h k
  rw [List.range_succ, List.flatMap_append, List.length_append, Nat.succ_mul]
  simp only [List.flatMap_cons, List.flatMap_nil, List.append_nil]
  omega
theorem pathsS_le {sw : List S69} {st : Nat} {home : Nat → Bool} (hl : sw.length ≤ 10) : ∀ (d v been set : Nat) (l : List Int), (pathsS sw st home d v been set l).length ≤ 11 ^ d
 | 0, v, been, set, l => by rw [pathsS]; split <;> simp
 | d + 1, v, been, set, l => by
  rw [pathsS, List.length_append]
  have h1 : (if home v = true then [(⟨(set : Int), l⟩ : S114)] else []).length ≤ 1 := by split <;> simp
  have h2 := flat_le (fun i => if goes sw st v been i = true then pathsS sw st home d (oth sw i v) (been ||| 2 ^ oth sw i v) (set ||| 2 ^ i) ((i : Int) :: l) else []) (11 ^ d) (fun i => by
   show (if goes sw st v been i = true then _ else _ : List S114).length ≤ _
   split
   ·
    exact pathsS_le hl d _ _ _ _
   ·
    simp) sw.length
  have h3 : sw.length * 11 ^ d ≤ 10 * 11 ^ d := Nat.mul_le_mul_right _ hl
  have h4 : 0 < 11 ^ d := Nat.pow_pos (by decide)
  rw [Nat.pow_succ]
  omega
theorem pow11 {d : Nat} (h : d ≤ 8) : 11 ^ d ≤ 214358881 := Nat.le_trans (Nat.pow_le_pow_right (by decide) h) (by decide)
section
variable {n : Nat} {sw : List S69} {fe : List S71} (h : GridOk (n : Int) sw fe) {st : Nat} (hst : st < 2 ^ sw.length)
def homeB (fe : List S71) (v : Nat) : Bool := fe.any (feed_grid_atHome.p (v : Int))
include h
theorem sx_lt {i : Nat} (hi : i < sw.length) : sx sw i < n ∧ sy sw i < n ∧ sx sw i ≠ sy sw i := by
 have := h.swn sw[i] (List.getElem_mem hi)
 rw [sx_eq hi, sy_eq hi]
 omega
theorem oth_lt {i v : Nat} (hi : i < sw.length) : oth sw i v < n := by
 have := sx_lt h hi
 unfold oth
 split
 ·
  exact this.2.1
 ·
  exact this.1
include hst
theorem paths_l0 (v been set : Nat) (l : List Int) (hv : v < n) (hb : been < 256) (hset : set < 2 ^ sw.length) (hl : l.length ≤ 100) (H : List S114) (hH : H.length ≤ 1) (B : Nat → List S114) (M : Nat) (hM : M ≤ 214358881) (hBl : ∀ i, (B i).length ≤ M)
  (hyes : ∀ i, i < sw.length → goes sw st v been i = true → Ev (fun k => feed_grid_paths.f k (n : Int) sw fe (st : Int) ((oth sw i v : Nat) : Int) ((been ||| 2 ^ oth sw i v : Nat) : Int) ((set ||| 2 ^ i : Nat) : Int) ((i : Int) :: l)) (B i))
  (hno : ∀ i, i < sw.length → goes sw st v been i = false → B i = []) :
  ∀ (d i : Nat), i + d = sw.length → Ev (fun k => feed_grid_paths.l0 k (st : Int) (v : Int) (been : Int) (H ++ (List.range i).flatMap B) sw (sw.length : Int) (i : Int) (n : Int) sw fe (set : Int) l) (H ++ (List.range sw.length).flatMap B) := by
 have hp := pow_le10 h
 have hlen := h.2.2.1
 have hn8 : n ≤ 8 := by have := h.2.1; omega
 intro d
 induction d with
 | zero =>
  intro i hi
  obtain rfl : i = sw.length := by omega
  refine Ev.step (fun k => by rw [feed_grid_paths.l0]) ?_
  exact ev_neg (by omega) (Ev.now _)
 | succ d ih =>
  intro i hi
  have hil : i < sw.length := by omega
  obtain ⟨q1, q2, q3⟩ := sx_lt h hil
  obtain ⟨x0, x1, y0, y1, hxy⟩ := h.swn sw[i] (List.getElem_mem hil)
  have ex := sx_eq hil
  have ey := sy_eq hil
  have fx : sw[i].f0 = ((sx sw i : Nat) : Int) := by rw [ex]; omega
  have fy : sw[i].f1 = ((sy sw i : Nat) : Int) := by rw [ey]; omega
  have hfl := flat_le B M hBl i
  have hfm : i * M ≤ 10 * 214358881 := Nat.mul_le_mul (by omega) hM
  have nxt : H ++ (List.range (i + 1)).flatMap B = (H ++ (List.range i).flatMap B) ++ B i := by
   rw [List.range_succ, List.flatMap_append]; simp
  have hlenH : (H ++ (List.range i).flatMap B).length ≤ 1 + 10 * 214358881 := by rw [List.length_append]; omega
  have i1 := ih (i + 1) (by omega)
  rw [nxt] at i1
  generalize (H ++ (List.range i).flatMap B) = acc at *
  have skip : goes sw st v been i = false → Ev (fun k => feed_grid_paths.j2 k (st : Int) (v : Int) (been : Int) acc (i : Int) sw (sw.length : Int) (i : Int) true (n : Int) sw fe (set : Int) l ((sx sw i : Nat) : Int) ((sy sw i : Nat) : Int)) (H ++ (List.range sw.length).flatMap B) := fun hg => by
   rw [hno i hil hg, List.append_nil] at i1
   refine Ev.step (fun k => by rw [feed_grid_paths.j2]) ?_
   rw [wrap_succ i (by omega)]
   exact ev_pos rfl i1
  have enter : ∀ (hbt : st.testBit i = true) (hor : v = sx sw i ∨ v = sy sw i), Ev (fun k => feed_grid_paths.j2 k (st : Int) (v : Int) (been : Int) acc (i : Int) sw (sw.length : Int) (i : Int) false (n : Int) sw fe (set : Int) l ((sx sw i : Nat) : Int) ((sy sw i : Nat) : Int)) (H ++ (List.range sw.length).flatMap B) := by
   intro hbt hor
   have ho : oth sw i v < n := oth_lt h hil
   have eo : wrap64 (wrap64 (((sx sw i : Nat) : Int) + ((sy sw i : Nat) : Int)) - (v : Int)) = ((oth sw i v : Nat) : Int) := by
    unfold oth
    rw [wrap_id (x := ((sx sw i : Nat) : Int) + ((sy sw i : Nat) : Int)) (by omega) (by omega), wrap_id (by omega) (by omega)]
    split <;> omega
   have eg : goes sw st v been i = !been.testBit (oth sw i v) := by
    unfold goes
    rw [hbt, Bool.true_and]
    rcases hor with e | e
    ·
     rw [decide_eq_true e]; rfl
    ·
     rw [decide_eq_true e, Bool.or_true, Bool.true_and]
   have EG := Aside0.mk eg
   refine Ev.step (fun k => by rw [feed_grid_paths.j2]) (ev_neg (by simp) ?_)
   rw [eo]
   clear eo eg
   rw [bit_u (by omega) (by omega), wrap_succ i (by omega)]
   refine ev_pos (Int.natCast_nonneg _) ?_
   by_cases hbb : been.testBit (oth sw i v) = true
   ·
    rw [if_pos hbb]
    refine ev_neg (by decide) ?_
    rw [hno i hil (by rw [EG.out, hbb]; rfl), List.append_nil] at i1
    exact i1
   ·
    rw [if_neg hbb]
    have hy := hyes i hil (by rw [EG.out]; simpa using hbb)
    have hpo := pow8 ho hn8
    have hpi : 2 ^ i < 2 ^ sw.length := Nat.pow_lt_pow_right (by decide) hil
    have e1 : Go.bits .or .u64 (been : Int) (shl .u64 1 ((oth sw i v : Nat) : Int)) = ((been ||| 2 ^ oth sw i v : Nat) : Int) := by rw [shl_u1 ho hn8, or_u (by omega) (by omega)]
    have e2 : Go.bits .or .i64 (set : Int) (shl .i64 1 (i : Int)) = ((set ||| 2 ^ i : Nat) : Int) := by rw [shl_one i (by omega), or_i (by omega) (by omega)]
    rw [e1, e2]
    clear e1 e2
    have hBi := hBl i
    refine ev_pos rfl (ev_pos (by omega) (ev_some ?_))
    refine ev_pos (by simp; omega) (Ev.bind hy (ev_pos (by omega) i1))
  refine Ev.step (fun k => by rw [feed_grid_paths.l0]) ?_
  rw [rd_S69 sw i hil, fx, fy, bit_i (by omega) (by omega)]
  refine ev_pos (by omega) (ev_pos (by omega) (ev_pos (by omega) ?_))
  by_cases hbt : st.testBit i = true
  ·
   rw [if_pos hbt]
   refine ev_neg (by decide) ?_
   by_cases c1 : v = sx sw i
   ·
    exact ev_pos (by omega) (enter hbt (.inl c1))
   ·
    refine ev_neg (by omega) ?_
    by_cases c2 : v = sy sw i
    ·
     have e : (((sy sw i : Nat) : Int) != (v : Int)) = false := by rw [c2]; simp
     rw [e]; exact enter hbt (.inr c2)
    ·
     have e : (((sy sw i : Nat) : Int) != (v : Int)) = true := by rw [bne_iff_ne]; omega
     rw [e]
     exact skip (by unfold goes; rw [decide_eq_false c1, decide_eq_false c2]; simp)
  ·
   rw [if_neg hbt]
   exact ev_pos rfl (skip (by unfold goes; simp [hbt]))
theorem paths_val : ∀ (d v been set : Nat) (l : List Int), v < n → been < 256 → set < 2 ^ sw.length → uv been n = d → l.length + d ≤ 50 →
  Ev (fun k => feed_grid_paths.f k (n : Int) sw fe (st : Int) (v : Int) (been : Int) (set : Int) l) (pathsS sw st (homeB fe) d v been set l) := by
 have hlen := h.2.2.1
 have hn8 : n ≤ 8 := by have := h.2.1; omega
 intro d
 induction d with
 | zero =>
  intro v been set l hv hb hset hu hl
  have key := paths_l0 h hst v been set l hv hb hset (by omega) (if homeB fe v = true then [⟨(set : Int), l⟩] else []) (by split <;> simp) (fun _ => []) 0 (by omega) (fun i => by simp)
   (fun i hi hg => by
    have := uv_zero hu (oth_lt h (i := i) (v := v) hi)
    unfold goes at hg
    rw [this] at hg; simp at hg) (fun _ _ _ => rfl) sw.length 0 (by omega)
  have e0 : (List.range sw.length).flatMap (fun _ => ([] : List S114)) = [] := by simp
  rw [e0, List.append_nil] at key
  simp only [List.range_zero, List.flatMap_nil, List.append_nil] at key
  rw [pathsS]
  refine Ev.step (fun k => by rw [feed_grid_paths.f]) ?_
  rw [atHome_f]
  refine ev_some ?_
  cases hh : fe.any (feed_grid_atHome.p (v : Int)) with
  | true =>
   have hb2 : homeB fe v = true := hh
   rw [if_pos hb2] at key ⊢
   refine ev_pos rfl (ev_pos (by simp) ?_)
   refine Ev.step (fun k => by rw [feed_grid_paths.j0]) ?_
   exact key
  | false =>
   have hb2 : ¬ homeB fe v = true := by unfold homeB; rw [hh]; simp
   rw [if_neg hb2] at key ⊢
   refine ev_neg (by simp) ?_
   refine Ev.step (fun k => by rw [feed_grid_paths.j0]) ?_
   exact key
 | succ d ih =>
  intro v been set l hv hb hset hu hl
  have key := paths_l0 h hst v been set l hv hb hset (by omega) (if homeB fe v = true then [⟨(set : Int), l⟩] else []) (by split <;> simp) (fun i => if goes sw st v been i = true then pathsS sw st (homeB fe) d (oth sw i v) (been ||| 2 ^ oth sw i v) (set ||| 2 ^ i) ((i : Int) :: l) else []) (11 ^ d) (pow11 (by have := uv_le (m := been) n; omega))
   (fun i => by
    show (if goes sw st v been i = true then _ else _ : List S114).length ≤ _
    split
    ·
     exact pathsS_le hlen d _ _ _ _
    ·
     simp)
   (fun i hi hg => by
    have ho := oth_lt h (i := i) (v := v) hi
    have hnb : ¬ been.testBit (oth sw i v) = true := by
     intro hbb
     unfold goes at hg
     rw [hbb] at hg; simp at hg
    have := uv_or hnb n ho
    show Ev _ (if goes sw st v been i = true then _ else _)
    rw [if_pos hg]
    exact ih _ _ _ _ ho (or8 hb (pow8 ho hn8)) (Nat.or_lt_two_pow hset (Nat.pow_lt_pow_right (by decide) hi)) (by omega) (by simp; omega))
   (fun i hi hg => by
    show (if goes sw st v been i = true then _ else _ : List S114) = []
    rw [if_neg (by rw [hg]; simp)]) sw.length 0 (by omega)
  simp only [List.range_zero, List.flatMap_nil, List.append_nil] at key
  rw [pathsS]
  refine Ev.step (fun k => by rw [feed_grid_paths.f]) ?_
  rw [atHome_f]
  refine ev_some ?_
  cases hh : fe.any (feed_grid_atHome.p (v : Int)) with
  | true =>
   have hb2 : homeB fe v = true := hh
   rw [if_pos hb2] at key ⊢
   refine ev_pos rfl (ev_pos (by simp) ?_)
   refine Ev.step (fun k => by rw [feed_grid_paths.j0]) ?_
   exact key
  | false =>
   have hb2 : ¬ homeB fe v = true := by unfold homeB; rw [hh]; simp
   rw [if_neg hb2] at key ⊢
   refine ev_neg (by simp) ?_
   refine Ev.step (fun k => by rw [feed_grid_paths.j0]) ?_
   exact key
end
/-! what they are -/
abbrev Jn (sw : List S69) (st : Nat) := Joined sw.length (sx sw) (sy sw) st.testBit
theorem goes_iff {sw : List S69} {st v been i : Nat} (hi : i < sw.length) (hne : sx sw i ≠ sy sw i) : goes sw st v been i = true ↔ Jn sw st i v (oth sw i v) ∧ been.testBit (oth sw i v) = false := by
 unfold goes Jn Joined oth
 simp only [Bool.and_eq_true, Bool.or_eq_true, decide_eq_true_eq, Bool.not_eq_true']
 constructor
 ·
  rintro ⟨⟨a, b⟩, c⟩
  refine ⟨⟨hi, a, ?_⟩, c⟩
  by_cases e : v = sx sw i
  ·
   rw [if_pos e]; exact .inl ⟨e.symm, rfl⟩
  ·
   rw [if_neg e]; exact .inr ⟨rfl, (b.resolve_left e).symm⟩
 ·
  rintro ⟨⟨_, a, b⟩, c⟩
  refine ⟨⟨a, ?_⟩, c⟩
  rcases b with ⟨b, _⟩ | ⟨_, b⟩
  ·
   exact .inl b.symm
  ·
   exact .inr b.symm
theorem joined_oth {sw : List S69} {st i u v : Nat} (hj : Jn sw st i u v) (hne : sx sw i ≠ sy sw i) : v = oth sw i u := by
 obtain ⟨_, _, h⟩ := hj
 unfold oth
 rcases h with ⟨a, b⟩ | ⟨a, b⟩
 ·
  rw [if_pos a.symm]; exact b.symm
 ·
  rw [if_neg (fun e => hne (by omega))]; exact a.symm
def PathOk (sw : List S69) (fe : List S71) (st sec : Nat) (p : S114) (es : List Nat) : Prop := (∃ v vs, Wk (Jn sw st) sec v vs es ∧ homeB fe v = true) ∧ p.f0 = ((msk es : Nat) : Int) ∧ p.f1 = es.map Int.ofNat
section
variable {n : Nat} {sw : List S69} {fe : List S71} (h : GridOk (n : Int) sw fe) {st : Nat} {sec : Nat}
include h
theorem paths_sound : ∀ (d v : Nat) (vs es : List Nat), Wk (Jn sw st) sec v vs es → ∀ p ∈ pathsS sw st (homeB fe) d v (msk vs) (msk es) (es.map Int.ofNat), ∃ es', PathOk sw fe st sec p es' := by
 intro d
 induction d with
 | zero =>
  intro v vs es hw p hp
  rw [pathsS] at hp
  by_cases hh : homeB fe v = true
  ·
   rw [if_pos hh] at hp
   obtain rfl := List.mem_singleton.1 hp
   exact ⟨es, ⟨v, vs, hw, hh⟩, rfl, rfl⟩
  ·
   rw [if_neg hh] at hp; cases hp
 | succ d ih =>
  intro v vs es hw p hp
  rw [pathsS] at hp
  rcases List.mem_append.1 hp with hp | hp
  ·
   by_cases hh : homeB fe v = true
   ·
    rw [if_pos hh] at hp
    obtain rfl := List.mem_singleton.1 hp
    exact ⟨es, ⟨v, vs, hw, hh⟩, rfl, rfl⟩
   ·
    rw [if_neg hh] at hp; cases hp
  ·
   obtain ⟨i, hi, hp⟩ := List.mem_flatMap.1 hp
   have hil := List.mem_range.1 hi
   by_cases hg : goes sw st v (msk vs) i = true
   ·
    rw [if_pos hg] at hp
    obtain ⟨g1, g2⟩ := (goes_iff hil (sx_lt h hil).2.2).1 hg
    have hnv : oth sw i v ∉ vs := fun hm => by rw [(msk_bit vs _).2 hm] at g2; cases g2
    exact ih _ _ _ (Wk.step hw g1 hnv) p hp
   ·
    rw [if_neg hg] at hp; cases hp
theorem paths_complete {v : Nat} {vs es : List Nat} (hw : Wk (Jn sw st) sec v vs es) : ∀ p, p ∈ pathsS sw st (homeB fe) (uv (msk vs) n) v (msk vs) (msk es) (es.map Int.ofNat) → p ∈ pathsS sw st (homeB fe) (uv (msk [sec]) n) sec (msk [sec]) 0 [] := by
 induction hw with
 | src => intro p hp; exact hp
 | step hw hok hv ih =>
  rename_i u v e vs es
  intro p hp
  refine ih p ?_
  have hel := hok.1
  have hne := (sx_lt h hel).2.2
  obtain rfl := joined_oth hok hne
  have hnb : ¬ (msk vs).testBit (oth sw e u) = true := fun hb => hv ((msk_bit vs _).1 hb)
  have e1 := uv_or hnb n (oth_lt h hel)
  rw [e1, pathsS]
  refine List.mem_append.2 (.inr (List.mem_flatMap.2 ⟨e, List.mem_range.2 hel, ?_⟩))
  rw [if_pos ((goes_iff hel hne).2 ⟨hok, by simpa using hnb⟩)]
  exact hp
theorem home_here {d v been set : Nat} {l : List Int} (hh : homeB fe v = true) : (⟨(set : Int), l⟩ : S114) ∈ pathsS sw st (homeB fe) d v been set l := by
 have h_ := h
 cases d with
 | zero => rw [pathsS, if_pos hh]; simp
 | succ d => rw [pathsS, if_pos hh]; simp
theorem wk_walk {v : Nat} {vs es : List Nat} (hw : Wk (Jn sw st) sec v vs es) : ∀ been : Nat, (∀ w ∈ vs, w ≠ v → been.testBit w = false) → walkTo sw st v been (es.map Int.ofNat) = some sec := by
 induction hw with
 | src => intro been _; rfl
 | step hw hok hv ih =>
  rename_i u v e vs es
  intro been hb
  obtain ⟨hel, hcl, hends⟩ := hok
  have hne := (sx_lt h hel).2.2
  obtain ⟨t, rfl⟩ := hw.head
  have huv : u ≠ v := fun e => hv (by rw [← e]; exact List.mem_cons_self ..)
  have hbu := hb u (List.mem_cons_of_mem _ (List.mem_cons_self ..)) huv
  have hnext : ∀ w ∈ u :: t, w ≠ u → (been ||| 2 ^ u).testBit w = false := fun w hw2 hwu => by
   rw [Nat.testBit_or, Nat.testBit_two_pow, decide_eq_false (fun e => hwu e.symm), Bool.or_false]
   exact hb w (List.mem_cons_of_mem _ hw2) (fun e => hv (by rw [← e]; exact hw2))
  have hc : 0 ≤ Int.ofNat e ∧ Int.ofNat e < (sw.length : Int) ∧ st.testBit (Int.ofNat e).toNat = true := ⟨Int.natCast_nonneg _, Int.ofNat_lt.2 hel, hcl⟩
  rw [List.map_cons, walkTo, if_pos hc, show (Int.ofNat e).toNat = e from rfl]
  rcases hends with ⟨a, b⟩ | ⟨a, b⟩
  ·
   rw [if_neg (fun q => huv (by omega)), if_pos b.symm, a, hbu, if_neg (by simp)]
   exact ih _ hnext
  ·
   rw [if_pos a.symm, b, hbu, if_neg (by simp)]
   exact ih _ hnext
theorem wk_edges {v : Nat} {vs es : List Nat} (hw : Wk (Jn sw st) sec v vs es) : es.Nodup ∧ es.length + 1 = vs.length ∧ vs.Nodup := by
 have h_ := h
 induction hw with
 | src => simp
 | step hw hok hv ih =>
  refine ⟨List.nodup_cons.2 ⟨hw.fresh sw.length (sx sw) (sy sw) st.testBit (fun _ _ _ h => h) hok hv, ih.1⟩, ?_, List.nodup_cons.2 ⟨hv, ih.2.2⟩⟩
  rw [List.length_cons, List.length_cons, ih.2.1]
theorem wk_feed {v : Nat} {vs es : List Nat} (hw : Wk (Jn sw st) sec v vs es) (hh : homeB fe v = true) : feedB sw fe st sec (es.map Int.ofNat) = true := by
 obtain ⟨f, hf, hp⟩ := List.any_eq_true.1 hh
 have hfv : f.f0 = (v : Int) := by unfold feed_grid_atHome.p at hp; simpa using hp
 refine List.any_eq_true.2 ⟨f, hf, decide_eq_true ?_⟩
 rw [hfv, Int.toNat_natCast]
 exact wk_walk h hw _ (fun w _ hwv => by rw [Nat.testBit_two_pow, decide_eq_false (fun e => hwv e.symm)])
end
theorem once_val : ∀ (es : List Nat) (used : Nat), es.Nodup → (∀ e ∈ es, used.testBit e = false) → once used (es.map Int.ofNat) = some (used ||| msk es)
 | [], used, _, _ => by simp [once, msk]
 | e :: t, used, hn, hu => by
  obtain ⟨h1, h2⟩ := List.nodup_cons.1 hn
  rw [List.map_cons, once, show (Int.ofNat e).toNat = e from rfl, if_neg (by rw [hu e (List.mem_cons_self ..)]; simp), once_val t _ h2 (fun x hx => by
   rw [Nat.testBit_or, hu x (List.mem_cons_of_mem _ hx), Nat.testBit_two_pow, decide_eq_false (fun q => h1 (by rw [q]; exact hx))]; rfl), msk]
  congr 1
  rw [Nat.or_assoc, Nat.or_comm (2 ^ e)]
theorem once_len : ∀ (l : List Int) (used u len : Nat), (∀ v ∈ l, 0 ≤ v ∧ v < (len : Int)) → once used l = some u → l.length ≤ len := by
 have key : ∀ (l : List Int) (used u len : Nat), (∀ v ∈ l, 0 ≤ v ∧ v < (len : Int)) → once used l = some u → l.length ≤ uv used len := by
  intro l
  induction l with
  | nil => intro used u len _ _; exact Nat.zero_le _
  | cons v t ih =>
   intro used u len hr ho
   rw [once] at ho
   obtain ⟨a, b⟩ := hr v (List.mem_cons_self ..)
   by_cases hb : used.testBit v.toNat = true
   ·
    rw [if_pos hb] at ho; cases ho
   ·
    rw [if_neg hb] at ho
    have h1 := uv_or hb len (by omega)
    have h2 := ih _ u len (fun x hx => hr x (List.mem_cons_of_mem _ hx)) ho
    rw [List.length_cons]; omega
 intro l used u len hr ho
 have h1 := key l used u len hr ho
 have h2 := uv_le (m := used) len
 omega
/-! the choice -/
def chooseS : List S114 → Nat → Nat → Option (List (List Int))
 | [], 0, _ => some []
 | [], _ + 1, _ => none
 | _ :: _, 0, _ => some []
 | p :: l, k + 1, used => if p.f0.toNat &&& used = 0 then (match chooseS l k (used ||| p.f0.toNat) with | some r => some (p.f1 :: r) | none => chooseS l (k + 1) used) else chooseS l (k + 1) used
theorem chooseS_zero (l : List S114) (used : Nat) : chooseS l 0 used = some [] := by cases l <;> rfl
def chR : Option (List (List Int)) → List (List Int) × Bool
 | some r => (r, true)
 | none => ([], false)
theorem chooseS_len : ∀ (l : List S114) (k used : Nat) (r : List (List Int)), chooseS l k used = some r → r.length = k
 | l, 0, used, r, h => by rw [chooseS_zero] at h; cases h; rfl
 | [], k + 1, used, r, h => by rw [chooseS] at h; cases h
 | p :: l, k + 1, used, r, h => by
  rw [chooseS] at h
  split at h
  ·
   cases hc : chooseS l k (used ||| p.f0.toNat) with
   | some r' => rw [hc] at h; cases h; rw [List.length_cons, chooseS_len l k _ r' hc]
   | none => rw [hc] at h; exact chooseS_len l (k + 1) used r h
  ·
   exact chooseS_len l (k + 1) used r h
theorem rd114 {xs : List S114} {i : Nat} (h : i < xs.length) : rd_T114 xs (i : Int) = xs[i] := by simp [rd_T114, List.getD_eq_getElem?_getD, h]
theorem choose_ev : ∀ (N : Nat) (l : List S114), l.length ≤ N → N ≤ 1000000000000 → (∀ p ∈ l, 0 ≤ p.f0 ∧ p.f0 < 1024) → ∀ (k used : Nat), k ≤ 10 → used < 1024 →
  Ev (fun K => feed_choose.f K l (k : Int) (used : Int)) (chR (chooseS l k used)) := by
 intro N
 induction N with
 | zero =>
  intro l hl _ hp k used hk hu
  obtain rfl : l = [] := List.eq_nil_of_length_eq_zero (by omega)
  refine Ev.step (fun K => by rw [feed_choose.f]) ?_
  cases k with
  | zero => exact ev_pos rfl (Ev.now _)
  | succ k =>
   refine ev_neg (by omega) ?_
   refine Ev.step (fun K => by rw [feed_choose.l0]) ?_
   exact ev_neg (by simp) (Ev.now _)
 | succ N IH =>
  intro l hl hN hp k used hk hu
  refine Ev.step (fun K => by rw [feed_choose.f]) ?_
  cases k with
  | zero => rw [chooseS_zero]; exact ev_pos rfl (Ev.now _)
  | succ k =>
   refine ev_neg (by omega) ?_
   have loop : ∀ (d i : Nat), i + d = l.length → Ev (fun K => feed_choose.l0 K l ((k + 1 : Nat) : Int) (used : Int) l (l.length : Int) (i : Int)) (chR (chooseS (l.drop i) (k + 1) used)) := by
    intro d
    induction d with
    | zero =>
     intro i hi
     obtain rfl : i = l.length := by omega
     rw [List.drop_length]
     refine Ev.step (fun K => by rw [feed_choose.l0]) ?_
     exact ev_neg (by omega) (Ev.now _)
    | succ d ih =>
     intro i hi
     have hil : i < l.length := by omega
     obtain ⟨p0, p1⟩ := hp _ (List.getElem_mem hil)
     obtain ⟨q, hq⟩ := Int.eq_ofNat_of_zero_le p0
     have hq2 : q < 2 ^ 10 := by omega
     have hor : used ||| q < 2 ^ 10 := Nat.or_lt_two_pow (by omega) hq2
     rw [show l.drop i = l[i] :: l.drop (i + 1) from List.drop_eq_getElem_cons hil, chooseS, hq, Int.toNat_natCast]
     refine Ev.step (fun K => by rw [feed_choose.l0]) ?_
     rw [rd114 hil, hq, and_i (by omega) (by omega), or_i (by omega) (by omega), wrap_succ i (by omega), wrap_id (x := ((k + 1 : Nat) : Int) - 1) (by omega) (by omega), show ((k + 1 : Nat) : Int) - 1 = (k : Int) by omega, Int.toNat_natCast]
     refine ev_pos (by omega) (ev_pos (by omega) (ev_pos (by omega) ?_))
     by_cases hz : q &&& used = 0
     ·
      rw [if_pos hz]
      have ic := IH (l.drop (i + 1)) (by rw [List.length_drop]; omega) (by omega) (fun p hp2 => hp p (List.mem_of_mem_drop hp2)) k (used ||| q) (by omega) (by omega)
      refine ev_pos (by omega) (ev_pos (by omega) (ev_pos (by omega) (Ev.bind ic ?_)))
      cases hc : chooseS (l.drop (i + 1)) k (used ||| q) with
      | some r =>
       have hr := chooseS_len _ _ _ _ hc
       exact ev_pos rfl (ev_some (ev_pos (by simp [chR]; omega) (Ev.now _)))
      | none => exact ev_neg (by simp [chR]) (ih (i + 1) (by omega))
     ·
      rw [if_neg hz]
      exact ev_neg (by omega) (ih (i + 1) (by omega))
   have := loop l.length 0 (by omega)
   rw [List.drop_zero] at this
   exact this
theorem choose_sound {sw : List S69} {fe : List S71} {n : Nat} (hg : GridOk (n : Int) sw fe) {st sec : Nat} : ∀ (l : List S114), (∀ p ∈ l, ∃ es, PathOk sw fe st sec p es) → ∀ (k used : Nat) (r : List (List Int)), chooseS l k used = some r → areB sw fe st sec used r = true
 | l, hl, 0, used, r, h => by rw [chooseS_zero] at h; cases h; rfl
 | [], hl, k + 1, used, r, h => by rw [chooseS] at h; cases h
 | p :: l, hl, k + 1, used, r, h => by
  have hl' : ∀ q ∈ l, ∃ es, PathOk sw fe st sec q es := fun q hq => hl q (List.mem_cons_of_mem _ hq)
  rw [chooseS] at h
  split at h
  ·
   rename_i hz
   cases hc : chooseS l k (used ||| p.f0.toNat) with
   | some r' =>
    rw [hc] at h; cases h
    have ih := choose_sound hg l hl' k _ r' hc
    obtain ⟨es, ⟨v, vs, hw, hh⟩, e0, e1⟩ := hl p (List.mem_cons_self ..)
    rw [e0, Int.toNat_natCast] at hz ih
    have hne : ∀ e ∈ es, used.testBit e = false := fun e he => by
     have h1 := congrArg (fun z => z.testBit e) hz
     simp only [Nat.testBit_and, Nat.zero_testBit, (msk_bit es e).2 he, Bool.true_and] at h1
     exact h1
    rw [areB, e1, wk_feed hg hw hh, once_val es used (wk_edges hg hw).1 hne, Bool.true_and]
    exact ih
   | none => rw [hc] at h; exact choose_sound hg l hl' (k + 1) used r h
  ·
   exact choose_sound hg l hl' (k + 1) used r h
theorem choose_complete : ∀ (l : List S114) (k used : Nat) (Qs : List S114), Qs.length = k → (∀ q ∈ Qs, q ∈ l ∧ q.f0.toNat ≠ 0 ∧ q.f0.toNat &&& used = 0) → Qs.Pairwise (fun a b => a.f0.toNat &&& b.f0.toNat = 0) → ∃ r, chooseS l k used = some r
 | l, 0, used, Qs, _, _, _ => ⟨[], chooseS_zero l used⟩
 | [], k + 1, used, Qs, hlen, hq, _ => by
  cases Qs with
  | nil => cases hlen
  | cons q t => have := (hq q (List.mem_cons_self ..)).1; cases this
 | p :: l, k + 1, used, Qs, hlen, hq, hpw => by
  rw [chooseS]
  by_cases hmem : p ∈ Qs
  ·
   obtain ⟨A, B, rfl⟩ := List.append_of_mem hmem
   obtain ⟨_, hp0, hpu⟩ := hq p hmem
   obtain ⟨pw1, pw2, pw3⟩ := List.pairwise_append.1 hpw
   obtain ⟨pw4, pw5⟩ := List.pairwise_cons.1 pw2
   rw [if_pos hpu]
   have far : ∀ q ∈ A ++ B, q.f0.toNat &&& p.f0.toNat = 0 := fun q hqm => by
    rcases List.mem_append.1 hqm with hqm | hqm
    ·
     exact pw3 q hqm p (List.mem_cons_self ..)
    ·
     rw [Nat.and_comm]; exact pw4 q hqm
   obtain ⟨r, hr⟩ := choose_complete l k (used ||| p.f0.toNat) (A ++ B) (by simp at hlen ⊢; omega) (fun q hqm => by
    have hq2 : q ∈ A ++ p :: B := by
     rcases List.mem_append.1 hqm with hqm | hqm
     ·
      exact List.mem_append.2 (.inl hqm)
     ·
      exact List.mem_append.2 (.inr (List.mem_cons_of_mem _ hqm))
    obtain ⟨a, b, c⟩ := hq q hq2
    refine ⟨?_, b, and_or_zero c (far q hqm)⟩
    rcases List.mem_cons.1 a with rfl | a
    ·
     have := far _ hqm
     rw [Nat.and_self] at this
     exact absurd this b
    ·
     exact a) (List.pairwise_append.2 ⟨pw1, pw5, fun a ha b hb => pw3 a ha b (List.mem_cons_of_mem _ hb)⟩)
   rw [hr]
   exact ⟨_, rfl⟩
  ·
   have hq' : ∀ q ∈ Qs, q ∈ l ∧ q.f0.toNat ≠ 0 ∧ q.f0.toNat &&& used = 0 := fun q hqm => by
    obtain ⟨a, b, c⟩ := hq q hqm
    refine ⟨?_, b, c⟩
    rcases List.mem_cons.1 a with rfl | a
    ·
     exact absurd hqm hmem
    ·
     exact a
   obtain ⟨r, hr⟩ := choose_complete l (k + 1) used Qs hlen hq' hpw
   rw [hr]
   split
   ·
    split
    ·
     exact ⟨_, rfl⟩
    ·
     exact ⟨_, rfl⟩
   ·
    exact ⟨_, rfl⟩
/-! as many as an isolation has switches -/
section
variable {n : Nat} {sw : List S69} {fe : List S71} (h : GridOk (n : Int) sw fe) {st : Nat} (hst : st < 2 ^ sw.length) {sec : Nat} (hsec : sec < n)
include h hst hsec
theorem cut_iso (b : Nat) (hL : Least sw fe n st sec (2 ^ sw.length) b) (R : Nat → Bool) (h1 : R sec = true) (h2 : ∀ v, v < n → R v = true → ¬ homeB fe v = true) :
  ((pc b : Nat) : Int) ≤ sm sw.length (fun e => if cross (sx sw) (sy sw) st.testBit R e then 1 else 0) := by
 have hlen := h.2.2.1
 let L : List Nat := (List.range sw.length).filter (cross (sx sw) (sy sw) st.testBit R)
 have hLm : ∀ e, e ∈ L ↔ e < sw.length ∧ cross (sx sw) (sy sw) st.testBit R e = true := fun e => by simp [L]
 have hlt : msk L < 2 ^ sw.length := msk_lt fun e he => ((hLm e).1 he).1
 have hbit : ∀ e, (msk L).testBit e = true ↔ e < sw.length ∧ cross (sx sw) (sy sw) st.testBit R e = true := fun e => (msk_bit L e).trans (hLm e)
 have hsub : st &&& msk L = msk L := by
  apply Nat.eq_of_testBit_eq
  intro j
  rw [Nat.testBit_and]
  cases hb : (msk L).testBit j with
  | false => rw [Bool.and_false]
  | true =>
   have := ((hbit j).1 hb).2
   unfold cross at this
   simp only [Bool.and_eq_true] at this
   rw [this.1]; rfl
 have hle : msk L ≤ st := by rw [← hsub]; exact Nat.and_le_left
 have hp := pow_le10 h
 have hiso : Iso sw fe n st sec (msk L) := by
  refine ⟨hsub, (dead_iff h (by omega) hsec).2 fun f hf hc => ?_⟩
  have hfr := h.fe f hf
  have hhome : homeB fe f.f0.toNat = true := List.any_eq_true.2 ⟨f, hf, by unfold feed_grid_atHome.p; simp; omega⟩
  have key : ∀ j, Conn sw (st - msk L) f.f0.toNat j → j < n ∧ R j = false := by
   intro j hcj
   induction hcj with
   | refl => exact ⟨by omega, by
     cases hR : R f.f0.toNat with
     | false => rfl
     | true => exact absurd hhome (h2 _ (by omega) hR)⟩
   | step _ he ih =>
    rename_i u w _
    obtain ⟨i, hi, hb, hends⟩ := he
    rw [sub_bit (by omega) hsub] at hb
    simp only [Bool.and_eq_true, Bool.not_eq_true'] at hb
    have hq := sx_lt h hi
    have ncr : cross (sx sw) (sy sw) st.testBit R i = false := by
     cases hcr : cross (sx sw) (sy sw) st.testBit R i with
     | false => rfl
     | true => have := (hbit i).2 ⟨hi, hcr⟩; rw [this] at hb; cases hb.2
    unfold cross at ncr
    rw [hb.1, Bool.true_and] at ncr
    have hRe : R (sx sw i) = R (sy sw i) := by simpa using ncr
    rcases hends with ⟨a, b⟩ | ⟨a, b⟩
    ·
     have ea : sx sw i = u := by rw [sx_eq hi, a, Int.toNat_natCast]
     have eb : sy sw i = w := by rw [sy_eq hi, b, Int.toNat_natCast]
     rw [ea, eb] at hRe
     exact ⟨by omega, by rw [← hRe]; exact ih.2⟩
    ·
     have ea : sx sw i = w := by rw [sx_eq hi, a, Int.toNat_natCast]
     have eb : sy sw i = u := by rw [sy_eq hi, b, Int.toNat_natCast]
     rw [ea, eb] at hRe
     exact ⟨by omega, by rw [hRe]; exact ih.2⟩
  have := (key sec hc).2
  rw [h1] at this; cases this
 have hmin := hL.2 (msk L) hlt hiso
 have hpc : ∀ i, i ≤ sw.length → ((pcTo (msk L) i : Nat) : Int) = sm i (fun e => if cross (sx sw) (sy sw) st.testBit R e then 1 else 0) := by
  intro i
  induction i with
  | zero => intro _; rfl
  | succ i ih =>
   intro hi
   rw [pcTo_succ, sm, ← ih (by omega)]
   by_cases hb : (msk L).testBit i = true
   ·
    rw [if_pos hb, if_pos ((hbit i).1 hb).2]; rfl
   ·
    rw [if_neg hb, if_neg (fun hc => hb ((hbit i).2 ⟨by omega, hc⟩))]; rfl
 have := hpc sw.length (Nat.le_refl _)
 rw [pcTo_len hlt hlen] at this
 omega
theorem feeds_exist (hat : fe.any (feed_grid_atHome.p (sec : Int)) = false) (b : Nat) (hL : Least sw fe n st sec (2 ^ sw.length) b) :
  ∃ r, chooseS (pathsS sw st (homeB fe) (uv (msk [sec]) n) sec (msk [sec]) 0 []) (pc b) 0 = some r := by
 have hns : ¬ homeB fe sec = true := by unfold homeB; rw [hat]; simp
 obtain ⟨Ps, p1, p2, p3⟩ := menger sw.length n (sx sw) (sy sw) st.testBit (fun e he => sx_lt h he) (fun v => homeB fe v = true) sec hsec hns (pc b) (fun R hR1 hR2 => cut_iso h hst hsec b hL R hR1 hR2)
 refine choose_complete _ _ _ (Ps.map fun es => (⟨((msk es : Nat) : Int), es.map Int.ofNat⟩ : S114)) (by rw [List.length_map, p1]) (fun q hq => ?_) ?_
 ·
  obtain ⟨es, hes, rfl⟩ := List.mem_map.1 hq
  obtain ⟨v, vs, hw, hh⟩ := p2 es hes
  refine ⟨paths_complete h hw _ (home_here h hh), ?_, Nat.and_zero _⟩
  show ((msk es : Nat) : Int).toNat ≠ 0
  rw [Int.toNat_natCast]
  cases hw with
  | src => exact absurd hh hns
  | step hw hok hv =>
   intro hz
   rename_i _ e _ es2
   have := (msk_bit (e :: es2) e).2 (List.mem_cons_self ..)
   rw [hz, Nat.zero_testBit] at this
   cases this
 ·
  rw [List.pairwise_map]
  refine p3.imp fun hab => ?_
  rw [Int.toNat_natCast, Int.toNat_natCast]
  exact msk_apart hab
end
end Go.Proofs.YtoilhnmdemnknaaDoor.Plain

namespace Go.Proofs.YtoilhnmdemnknaaDoor.Plain
open Go.RowKit Go.Proofs.YtoilhnmdemnknaaDoor.XFeed Go.Proofs.YtoilhnmdemnknaaDoorW.PrintWords Go.Proofs.YtoilhnmdemnknaaDoorW.PrintLast Go.Proofs.YtoilhnmdemnknaaDoorW.PrintMore
theorem first_at : dropperlaw05_First.f 200 = some true := by kernel_rfl
theorem first_ev : Ev (fun k => dropperlaw05_First.f k) true := Ev.of (dropperlaw05_First.mono) first_at
end Go.Proofs.YtoilhnmdemnknaaDoor.Plain
