-- Written by wip/pack.py of this repo: texts of this claim, put together.
import Derived.DataReads
import Derived.OpenShut
import Derived.ChangeArms
import Derived.Test.YtoilhnmdemnknaaDoorRows
import Derived.ProofKit
import Derived.LaidMore
import Derived.Stop.Joined
import Derived.Test.YtoilhnmdemnknaaDoorTie
import Derived.Test.YtoilhnmdemnknaaDoorCards
import Derived.SevenTiedAt
import Derived.WalkKit
import Derived.ShutString
import Derived.ChangeOld
import Derived.Below
import Derived.SizedLaws
import Derived.Test.YtoilhnmdemnknaaDoorKFeedFeedsg
/- Which lists are feeds that are apart, and that Feeds returns as many as an isolation has switches, or why there are none: by Menger's law for edges. No condition but the statement's own. -/
namespace Go.Proofs.YtoilhnmdemnknaaDoor.Pure
set_option linter.unusedVariables false
set_option linter.unusedSimpArgs false
open Go.RowKit Go.Proofs.YtoilhnmdemnknaaDoor.XFeed Go.Proofs.YtoilhnmdemnknaaDoorW.PrintWords Go.Proofs.YtoilhnmdemnknaaDoorW.PrintLast Go.Proofs.YtoilhnmdemnknaaDoorW.PrintMore
open Go.Proofs.YtoilhnmdemnknaaDoor.Plain Go.Proofs.YtoilhnmdemnknaaDoor.Menger

theorem FeedFeeds : dropperlaw05_FeedFeeds.Pure := by
 intro N sw fe st sec ls hN hsw hfe hst hsec hll
 refine Ev.rounds ?_
 have yes : Ev (fun k => dropperlaw05_FeedFeeds.j0 k ls true N sw fe st sec) true := by
  refine Ev.step (fun k => by rw [dropperlaw05_FeedFeeds.j0]) ?_
  exact ev_pos rfl (Ev.bind first_ev (Ev.now _))
 unfold dropperlaw05_FeedFeeds.f
 rw [large_f]
 by_cases hl : 20 < sw.length ∨ 20 < fe.length ∨ 1100 < ([] : List Int).length
 ·
  exact ev_some (ev_pos (decide_eq_true hl) yes)
 refine ev_some (ev_neg (by simpa using hl) (Ev.bind (many_val ls) ?_))
 have hl1 : sw.length ≤ 20 := by omega
 by_cases hmany : 25 < ls.length ∨ ∃ l ∈ ls, 30 < l.length
 ·
  rw [decide_eq_true hmany]; exact yes
 rw [decide_eq_false hmany]
 have hm1 : ls.length ≤ 25 := Nat.le_of_not_lt fun e => hmany (.inl e)
 have hm2 : ∀ l ∈ ls, l.length ≤ 1000 := fun l hlm => by
  have : ¬ 30 < l.length := fun e => hmany (.inr ⟨l, hlm, e⟩)
  omega
 obtain ⟨a1, a2⟩ := are_val N sw fe hl1 st sec ls (by omega) hm2
 refine Ev.step (fun k => by rw [dropperlaw05_FeedFeeds.j0]) (ev_neg (by simp) (Ev.bind a1 (Ev.bind a2 ?_)))
 refine ev_neg (by simp) ?_
 have e0 : ((areR N sw fe st sec ls, errS N sw fe st sec).2 != (areR N sw fe st sec ls, errS N sw fe st sec).2) = false := by simp
 rw [e0]
 refine Ev.step (fun k => by rw [dropperlaw05_FeedFeeds.j1]) (ev_neg (by simp) ?_)
 by_cases h : errS N sw fe st sec = 0
 ·
  have hz := h
  obtain ⟨n, s, c, rfl, rfl, rfl, hg, hs, hc⟩ := errS_nat h
  have wv := why_val (n : Int) sw fe hl1 (s : Int) (c : Int)
  rw [hz] at wv
  have hn8 : n ≤ 8 := by have := hg.2.1; omega
  cases hat : fe.any (feed_grid_atHome.p (c : Int)) with
  | true =>
   have hI : Ev (fun k => feed_Feeds.f k (n : Int) sw fe (s : Int) (c : Int)) ([], 5) := by
    unfold feed_Feeds.f
    rw [asked_val]
    refine ev_some (ev_pos hz ?_)
    rw [atHome_f, hat]
    exact ev_some (ev_pos rfl (Ev.now _))
   exact Ev.bind hI (Ev.bind wv (ev_pos rfl (Ev.bind (at_val _ sw fe (by omega) _) (ev_pos hat (ev_pos rfl (ev_pos rfl (Ev.bind first_ev (Ev.now _))))))))
  | false =>
   have hh := not_home hat
   have hp := pow_le10 hg
   obtain ⟨b, g1, g2, g3⟩ := least_val hg hs hc hh
   obtain ⟨r, hr⟩ := feeds_exist hg hs hc hat b g3
   have hrl := chooseS_len _ _ _ _ hr
   have hpb := pc_le b
   have hpok : ∀ p ∈ pathsS sw s (homeB fe) (uv (msk [c]) n) c (msk [c]) 0 [], ∃ es, PathOk sw fe s c p es := paths_sound hg _ _ _ _ Wk.src
   have hpf : ∀ p ∈ pathsS sw s (homeB fe) (uv (msk [c]) n) c (msk [c]) 0 [], 0 ≤ p.f0 ∧ p.f0 < 1024 := fun p hpm => by
    obtain ⟨es, ⟨v, vs, hw, _⟩, e1, _⟩ := hpok p hpm
    have hlt := msk_lt (l := es) (k := sw.length) (fun e he => (hw.ends sw.length (sx sw) (sy sw) s.testBit (fun _ _ _ h => h) e he).1)
    rw [e1]
    omega
   have hare := choose_sound hg _ hpok _ _ _ hr
   have em : msk [c] = 2 ^ c := by simp [msk]
   have huv := uv_le (m := msk [c]) n
   have pv := paths_val hg hs (uv (msk [c]) n) c (msk [c]) 0 [] hc (by rw [em]; exact pow8 hc hn8) (Nat.pow_pos (by decide)) rfl (by simp; omega)
   have hpl := pathsS_le (st := s) (home := homeB fe) hg.2.2.1 (uv (msk [c]) n) c (msk [c]) 0 []
   have h11 := pow11 (d := uv (msk [c]) n) (by omega)
   have cv := choose_ev _ _ (Nat.le_refl _) (by omega) hpf (pc b) 0 (by omega) (by omega)
   rw [hr] at cv
   have hI : Ev (fun k => feed_Feeds.f k (n : Int) sw fe (s : Int) (c : Int)) (r, 0) := by
    unfold feed_Feeds.f
    rw [asked_val]
    refine ev_some (ev_pos hz ?_)
    rw [atHome_f, hat]
    refine ev_some (ev_neg (by simp) (Ev.bind g1 ?_))
    rw [wrapU (by omega), ones1024 b (by omega), shl_u1 hc hn8, ← em]
    exact ev_some (ev_pos (by omega) (Ev.bind pv (Ev.bind cv (Ev.now _))))
   have hare2 := are_val (n : Int) sw fe hl1 (s : Int) (c : Int) r (by omega) (fun l hlm => ?_)
   ·
    have er : areR (n : Int) sw fe (s : Int) (c : Int) r = true := by
     unfold areR
     rw [if_pos hz, Int.toNat_natCast, Int.toNat_natCast, hare, decide_eq_true (by omega)]; rfl
    rw [er, hz] at hare2
    refine Ev.bind hI (Ev.bind wv (ev_pos rfl (Ev.bind (at_val _ sw fe (by omega) _) (ev_neg (by rw [hat]; simp) (Ev.bind hare2.2 ?_)))))
    refine ev_pos rfl (ev_pos rfl (ev_pos rfl (Ev.bind (fewest_val hg hs hc b g3 g2) ?_)))
    exact ev_pos (by show ((r.length : Nat) : Int) = _; rw [hrl]) (Ev.bind first_ev (Ev.now _))
   ·
    -- each is a path without a section twice
    have key : ∀ (us : Nat) (q : List (List Int)), areB sw fe s c us q = true → ∀ l ∈ q, l.length ≤ 1000 := by
     intro us q
     induction q generalizing us with
     | nil => intro _ l hl; cases hl
     | cons a t ih =>
      intro ha l hl
      rw [areB] at ha
      simp only [Bool.and_eq_true] at ha
      rcases List.mem_cons.1 hl with rfl | hl
      ·
       cases ho : once us l with
       | none => rw [ho] at ha; cases ha.2
       | some u =>
        have hr := feedB_range ha.1
        exact Nat.le_trans (once_len l us u sw.length hr ho) (by have := hg.2.2.1; omega)
      ·
       cases ho : once us a with
       | none => rw [ho] at ha; cases ha.2
       | some u => rw [ho] at ha; exact ih u ha.2 l hl
    exact key 0 r hare l hlm
 ·
  have hI : Ev (fun k => feed_Feeds.f k N sw fe st sec) ([], errS N sw fe st sec) := by
   unfold feed_Feeds.f
   rw [asked_val]
   exact ev_some (ev_neg h (Ev.now _))
  exact Ev.bind hI (Ev.bind (why_val N sw fe hl1 st sec) (ev_neg h (ev_pos rfl (ev_pos rfl (Ev.bind first_ev (Ev.now _))))))
end Go.Proofs.YtoilhnmdemnknaaDoor.Pure

namespace Go.Proofs.YtoilhnmdemnknaaDoor.Open
open Go.RowKit Go.Proofs.YtoilhnmdemnknaaDoorW.PrintWords Go.Proofs.YtoilhnmdemnknaaDoorW.PrintLast Go.Proofs.YtoilhnmdemnknaaDoorW.PrintMore
set_option linter.unusedVariables false
set_option linter.unusedSimpArgs false
/-! What an argument of a type reads as, in the print's kinds. -/
def Opens {α : Type} (P : Program) (t : TypeId) (kd : Kd α) (G : α → Prop) : Prop :=
 ∀ (H : Type) (enc : TypeId × Value → H) (W : World) (fuel : Nat) (cs : List Value) (x : DataW H × List MemPlace), DataW.trod enc P W 0 (fun _ => true) true fuel t cs = some x → ∃ a, kd.K W a cs ∧ G a
section
variable {P : Program} {t e : TypeId} {α β : Type} {kd : Kd α} {G : α → Prop}
theorem opens_int {k : IntKind} (hu : P.underlying t = some (.int k)) : Opens P t (Kd.int k) (fun n => (Lit.int k n).wf = true) := by
 intro H enc W fuel cs x h
 obtain ⟨n, rfl, _, hw⟩ := DataW.trod_int hu h
 exact ⟨n, rfl, hw⟩
theorem exists_list {Q : Nat → α → Prop} : ∀ n, (∀ i, i < n → ∃ x, Q i x) → ∃ xs : List α, xs.length = n ∧ ∀ i x, xs[i]? = some x → Q i x := by
 intro n
 induction n with
 | zero => intro _; exact ⟨[], rfl, fun i x h => by simp at h⟩
 | succ n ih =>
  intro h
  obtain ⟨xs, hl, hq⟩ := ih (fun i hi => h i (by omega))
  obtain ⟨x, hx⟩ := h n (by omega)
  refine ⟨xs ++ [x], by simp [hl], fun i y hy => ?_⟩
  by_cases hi : i < n
  ·
   rw [List.getElem?_append_left (by omega)] at hy
   exact hq i y hy
  ·
   rw [List.getElem?_append_right (by omega)] at hy
   have : i - xs.length = 0 := by
    have := (List.getElem?_eq_some_iff.1 hy).1
    simp at this; omega
   rw [this] at hy
   have hin : i = n := by omega
   subst hin
   simp at hy
   subst hy
   exact hx
theorem add_add (a : Addr) (m n : Nat) : (a.add m).add n = a.add (m + n) := by
 unfold Addr.add
 by_cases h1 : m = 0
 ·
  subst h1; simp
 ·
  by_cases h2 : n = 0
  ·
   subst h2; simp [h1]
  ·
   have : ¬ m + n = 0 := by omega
   simp [h1, h2, this, Nat.add_assoc]
theorem opens_slice (hu : P.underlying t = some (.slice e)) (he : Opens P e kd G) (hc : P.cellsOf e = kd.sz) : Opens P t (Kd.slice e kd) (fun l => l.length ≤ 9223372036854775807 ∧ ∀ x ∈ l, G x) := by
 intro H enc W fuel cs x h
 rcases DataW.trod_slice hu h with ⟨rfl, _⟩ | ⟨a, len, cap, elems, rest, n, _, rfl, _, hb, hl, hm, hlen, hel, _, _⟩
 ·
  exact ⟨[], ⟨none, 0, rfl, Nat.le_refl _, rfl, by simp, fun h => absurd h (by simp)⟩, by simp, fun x hx => by simp at hx⟩
 ·
  have hx : ∀ i, i < len → ∃ y : α, (∃ c, c.length = kd.sz ∧ kd.K W y c ∧ ∀ j u, c[j]? = some u → W.cell? (a.add (i * kd.sz + j)) = some u) ∧ G y := by
   intro i hi
   have h1 := hel i hi
   rw [List.getElem?_eq_getElem (by omega)] at h1
   obtain ⟨c, hc1, hc2⟩ := Option.bind_eq_some_iff.1 h1
   obtain ⟨y, hk, hg⟩ := he H enc W n c _ hc2
   obtain ⟨_, hcl, hcell⟩ := World.cells?_some hc1
   refine ⟨y, ⟨c, kd.K_len hk, hk, fun j u hj => ?_⟩, hg⟩
   rw [hc] at hcell
   have := hcell j (by have := (List.getElem?_eq_some_iff.1 hj).1; have := kd.K_len hk; omega)
   rw [← add_add, this, hj]
  obtain ⟨xs, hxl, hxq⟩ := exists_list len hx
  have hmax : len ≤ 9223372036854775807 := by unfold maxLen at hm; omega
  refine ⟨xs, ⟨some a, cap, by rw [hxl], by omega, rfl, by omega, fun _ => ⟨a, rfl, fun j p hj => (hxq j p hj).1⟩⟩, by omega, fun y hy => ?_⟩
  obtain ⟨i, hi, rfl⟩ := List.mem_iff_getElem.1 hy
  exact (hxq i xs[i] (List.getElem?_eq_getElem hi)).2
def OpensF (P : Program) (fs : List Field) (off : Nat) (kd : Kd α) (G : α → Prop) : Prop :=
 ∀ (H : Type) (enc : TypeId × Value → H) (W : World) (fuel : Nat) (cs : List Value) (xs : List (DataW H × List MemPlace)), xs.length = fs.length → cs.length = off + kd.sz →
  (∀ (i : Nat) (f : Field), fs[i]? = some f → DataW.trod enc P W 0 (fun _ => true) true fuel f.type ((cs.drop f.offset).take (P.cellsOf f.type)) = xs[i]?) → ∃ a, kd.K W a (cs.drop off) ∧ G a
theorem opensF_one {f : Field} {off : Nat} (ho : f.offset = off) (hc : P.cellsOf f.type = kd.sz) (h : Opens P f.type kd G) : OpensF P [f] off kd G := by
 intro H enc W fuel cs xs hl hcs hx
 have h0 := hx 0 f rfl
 rw [List.getElem?_eq_getElem (by rw [hl]; simp), ho, hc, List.take_of_length_le (by rw [List.length_drop]; omega)] at h0
 exact h H enc W fuel _ _ h0
theorem opensF_cons {f : Field} {fs : List Field} {off : Nat} {ka : Kd α} {kb : Kd β} {Ga : α → Prop} {Gb : β → Prop} (ho : f.offset = off) (hc : P.cellsOf f.type = ka.sz) (h : Opens P f.type ka Ga) (hr : OpensF P fs (off + ka.sz) kb Gb) :
  OpensF P (f :: fs) off (Kd.pair ka kb) (fun p => Ga p.1 ∧ Gb p.2) := by
 intro H enc W fuel cs xs hl hcs hx
 have hcs' : cs.length = off + (ka.sz + kb.sz) := hcs
 match xs, hl with
 | x0 :: xs', hl =>
  have h0 := hx 0 f rfl
  rw [ho, hc] at h0
  obtain ⟨a, ha, hga⟩ := h H enc W fuel _ x0 h0
  obtain ⟨b, hb, hgb⟩ := hr H enc W fuel cs xs' (by simpa using hl) (by omega) (fun i f' hf' => hx (i + 1) f' (by simpa using hf'))
  refine ⟨(a, b), ⟨_, _, ?_, ha, hb⟩, hga, hgb⟩
  rw [← List.drop_drop, List.take_append_drop]
theorem opens_struct {fs : Array Field} (hu : P.underlying t = some (.struct fs)) (hc : P.cellsOf t = kd.sz) (h : OpensF P fs.toList 0 kd G) : Opens P t kd G := by
 intro H enc W fuel cs x hx
 obtain ⟨xs, n, _, _, hl, hxl, hf⟩ := DataW.trod_struct hu hx
 obtain ⟨a, ha, hg⟩ := h H enc W n cs xs (by rw [hxl]; simp) (by omega) (fun i f hf' => hf i f (by simpa using hf'))
 exact ⟨a, ha, hg⟩
theorem opens_iso {f : β → α} (g : α → β) (hfg : ∀ y, f (g y) = y) (h : Opens P t kd G) : Opens P t (Kd.iso kd f) (fun b => G (f b)) := by
 intro H enc W fuel cs x hx
 obtain ⟨a, ha, hg⟩ := h H enc W fuel cs x hx
 exact ⟨g a, by show kd.K W (f (g a)) cs; rw [hfg]; exact ha, by show G (f (g a)); rw [hfg]; exact hg⟩
theorem agg_of {cs : Array Value} {l : List Value} (h : (Value.agg cs).cells.toList = l) : cs = l.toArray := by
 have h' : cs.toList = l := h
 rw [← h']
end
end Go.Proofs.YtoilhnmdemnknaaDoor.Open

/- From the rows' condition on the laid tables of math/bits to the table in the world. -/
namespace Go.Proofs.YtoilhnmdemnknaaDoor.Laid
open Go.ChangeShapes Go.WideShapes Go.ChangeAt Go.WideMaps Go.WideElems Go.RowKit Go.Proofs.YtoilhnmdemnknaaDoor

abbrev laid2 : List (String × DataW Unit) := [("math/bits.deBruijn32tab", Rows.laid_math_bits_deBruijn32tab), ("math/bits.deBruijn64tab", Rows.laid_math_bits_deBruijn64tab)]
theorem g64 : Tryd.prog.globalNamed "math/bits.deBruijn64tab" = some 1 := by kernel_rfl
theorem t64 : (Tryd.prog.globals[1]?).map (·.type) = some 142 := by kernel_rfl
theorem door_met (os : Os) (args : Array Value) : laidMetH Tryd.prog laid2 ((World.doorLaid Tryd.prog 4000 os).forCall (fun _ _ => 0) ⟨#[], args, []⟩).memory :=
 laidMetH_of_parts3 (fuel := 100) (laidMet_of_run' 100 (by kernel_rfl) (by kernel_rfl)) (by kernel_rfl) (by kernel_rfl)
theorem tabs_of {W : World} (h : laidMetH Tryd.prog laid2 W) : Tab.Tabs W := by
 rw [MakeChecks.laidMetH_plain _ _ _ (by kernel_rfl)] at h
 obtain ⟨ps, ⟨g0, t0, cs0, f0, p0, q0, hg0, ht0, hv0, hd0, ⟨g1, t1, cs1, f1, p1, q1, hg1, ht1, hv1, hd1, _, _⟩, _⟩, _, _⟩ := h
 obtain rfl := Option.some.inj (g64.symm.trans hg1)
 obtain rfl := Option.some.inj (t64.symm.trans ht1)
 obtain ⟨xs, m1, rfl, hx1, hlen, hn3, hel⟩ := DataW.trod_array Tryd.underlying142 hd1
 have hT : (Rows.laid_math_bits_deBruijn64tab : DataW Unit) = DataW.agg (Tab.tab64.map fun n => DataW.lit (.int .u8 n)) := rfl
 rw [hT] at hx1
 simp only [Prod.mk.injEq, DataW.agg.injEq] at hx1
 have c5 : Tryd.prog.cellsOf 5 = 1 := by kernel_rfl
 intro i hi
 have hix : i < xs.length := by omega
 have hlt : i < Tab.tab64.length := by show i < 64; exact hi
 have hi1 := hel i hi
 rw [List.getElem?_eq_getElem hix] at hi1
 obtain ⟨k, e1, e2, _⟩ := DataW.trod_int Tryd.underlying5 hi1
 have hk : (Tab.tab64.map fun n => (DataW.lit (.int .u8 n) : DataW Unit))[i]? = (xs.map fun x => x.1)[i]? := by rw [hx1.1]
 rw [List.getElem?_map, List.getElem?_map, List.getElem?_eq_getElem hix, List.getElem?_eq_getElem hlt, e2] at hk
 have hk2 : Tab.tab64[i] = k := by simpa using hk
 have hc := World.var?_cell hg1 hv1 i
 rw [hc, List.getD_eq_getElem?_getD, List.getElem?_eq_getElem hlt, hk2]
 rw [c5, Nat.mul_one] at e1
 have hd : cs1.toList[i]? = some (.int .u8 k) := by
  have h0 := congrArg (fun l => l[0]?) e1
  simpa [List.getElem?_take, List.getElem?_drop] using h0
 simpa using hd
end Go.Proofs.YtoilhnmdemnknaaDoor.Laid

-- Written by wip/xprint.py of this repo, over the kit's print.py: out of the translation; the oracles in it are by hand. Not trusted: Lean checks it.
namespace Go.Proofs.YtoilhnmdemnknaaDoor.feedFeeds
open Go.ChangeShapes Go.WideShapes Go.ChangeAt Go.RowKit Go.Proofs.YtoilhnmdemnknaaDoor.Open Go.Proofs.YtoilhnmdemnknaaDoor.XFeed Go.Proofs.YtoilhnmdemnknaaDoorW.PrintWords Go.Proofs.YtoilhnmdemnknaaDoorW.PrintLast Go.Proofs.YtoilhnmdemnknaaDoorW.PrintMore
open Go.ChangeMaps (open_string shut_string)
set_option linter.unusedVariables false
set_option linter.unusedSimpArgs false
theorem own : ownKnob Tryd.prog.godebug = none := by kernel_rfl
theorem laidOut : laidOutB Tryd.prog = true := by kernel_rfl
set_option maxRecDepth 100000 in
theorem lifted (os : Os) (started : os.Started) (H : Type) (enc : TypeId × Value → H) :
  ReturnsInHanded {} Tryd.checked os 9 .any (fun w args => (Rows.feedFeedsSpec.pre enc Tryd.prog Tryd.f9 [] false w args ∧ laidMetH Tryd.prog Laid.laid2 w) ∧ sizedMet enc Tryd.prog Tryd.f9 (OpenSpec.ofChange Rows.feedFeedsSpec) false w args) (Rows.feedFeedsSpec.post enc Tryd.prog Tryd.f9 false true false false) := by
 refine returnsInHanded_of_change_and (C := Tryd.checked) (X := fun w _ => laidMetH Tryd.prog Laid.laid2 w) (fun _ _ _ hh h => h.of_heap hh) own started (by kernel_rfl) Tryd.func9
  (ChangeSpec.witness_shaped (enc := enc) (C := Tryd.checked) (os := os) (X := fun w _ => laidMetH Tryd.prog Laid.laid2 w) false (World.doorLaid Tryd.prog 4000 os) #[.agg #[.int .i64 0, .slice none 0 0, .slice none 0 0], .agg #[.int .i64 0, .int .i64 0], .slice none 0 0] 8 rfl (World.shaped_of_RefB (by kernel_rfl) (by kernel_rfl)) (by kernel_rfl) (by kernel_rfl) (by kernel_rfl) (Laid.door_met os _)) ?_
 intro W base args ds gs before hval0 hW hcnd hsz0 hL _
 have hval : ∀ (j : Nat) t v, Tryd.f9.params[j]? = some t → args[j]? = some v → Value.okWide Tryd.prog W .any base t v := hval0
 have hW' := hW
 obtain ⟨p, q, hA0, hV, rfl, hfz, hnd⟩ := hW
 have hA : DataW.TrodAll enc Tryd.prog W 0 (fun _ => true) true Tryd.f9.params.toList args.toList ds p := hA0
 rw [Tryd.params9] at hA hval
 obtain ⟨v0, vs0, d0, ds0, p0, q0, hargs, rfl, rfl, h0, r0⟩ := trodAll_cons hA
 obtain ⟨v1, vs1, d1, ds1, p1, q1, rfl, rfl, rfl, h1, r1⟩ := trodAll_cons r0
 obtain ⟨v2, vs2, d2, ds2, p2, q2, rfl, rfl, rfl, h2, r2⟩ := trodAll_cons r1
 obtain ⟨rfl, rfl, rfl⟩ := trodAll_nil r2
 obtain rfl : args = #[v0, v1, v2] := by cases args; simp_all
 obtain ⟨rfl, rfl⟩ := trodVars_none hV
 obtain ⟨cs0, rfl, hz0⟩ := okWide_struct Tryd.underlying25 (hval 0 25 v0 rfl rfl)
 have k0 := h0
 have lt0 : ∀ x ∈ p0, x.block < W.heap.size := by obtain ⟨m, hm⟩ := k0; exact DataW.trod_lt m _ _ _ hm
 obtain ⟨fuel0, hf0⟩ := h0
 obtain ⟨⟨u0_0, u0_1, u0_2⟩, hK0, hG0⟩ := (opens_struct Tryd.underlying25 (by kernel_rfl) (opensF_cons rfl (by kernel_rfl) (opens_int Tryd.underlying3) (opensF_cons rfl (by kernel_rfl) (opens_slice Tryd.underlying22 (opens_iso (f := fun x : S69 => (x.f0, x.f1)) (fun p => ⟨p.1, p.2⟩) (fun _ => rfl) (opens_struct Tryd.underlying69 (by kernel_rfl) (opensF_cons rfl (by kernel_rfl) (opens_int Tryd.underlying3) (opensF_one rfl (by kernel_rfl) (opens_int Tryd.underlying3))))) (by kernel_rfl)) (opensF_one rfl (by kernel_rfl) (opens_slice Tryd.underlying23 (opens_iso (f := fun x : S71 => (x.f0, x.f1)) (fun p => ⟨p.1, p.2⟩) (fun _ => rfl) (opens_struct Tryd.underlying71 (by kernel_rfl) (opensF_cons rfl (by kernel_rfl) (opens_int Tryd.underlying3) (opensF_one rfl (by kernel_rfl) (opens_int Tryd.underlying3))))) (by kernel_rfl)))))) H enc W fuel0 _ _ hf0
 obtain ⟨c0_0, r0_0, e0_0, hk0_0, c0_1, r0_1, e0_1, hk0_1, hk0_2⟩ := hK0
 obtain ⟨g0_0, g0_1, g0_2⟩ := hG0
 have hq0_0 := hk0_0
 obtain ⟨A0_1, q0_1, hq0_1, hc0_1, hr0_1⟩ := hk0_1
 obtain ⟨A0_2, q0_2, hq0_2, hc0_2, hr0_2⟩ := hk0_2
 have hq0_0' : c0_0 = _ := hq0_0
 have hq0_1' : c0_1 = _ := hq0_1
 obtain rfl : cs0 = #[.int .i64 u0_0, .slice A0_1 u0_1.length q0_1, .slice A0_2 u0_2.length q0_2] := by
  have h_ := agg_of (l := [.int .i64 u0_0, .slice A0_1 u0_1.length q0_1, .slice A0_2 u0_2.length q0_2]) (cs := cs0) (by rw [e0_0, hq0_0', e0_1, hq0_1', hq0_2]; rfl)
  exact h_
 obtain ⟨cs1, rfl, hz1⟩ := okWide_struct Tryd.underlying43 (hval 1 43 v1 rfl rfl)
 have k1 := h1
 have lt1 : ∀ x ∈ p1, x.block < W.heap.size := by obtain ⟨m, hm⟩ := k1; exact DataW.trod_lt m _ _ _ hm
 obtain ⟨fuel1, hf1⟩ := h1
 obtain ⟨⟨u1_0, u1_1⟩, hK1, hG1⟩ := (opens_struct Tryd.underlying43 (by kernel_rfl) (opensF_cons rfl (by kernel_rfl) (opens_int Tryd.underlying3) (opensF_one rfl (by kernel_rfl) (opens_int Tryd.underlying3)))) H enc W fuel1 _ _ hf1
 obtain ⟨c1_0, r1_0, e1_0, hk1_0, hk1_1⟩ := hK1
 obtain ⟨g1_0, g1_1⟩ := hG1
 have hq1_0 := hk1_0
 have hq1_1 := hk1_1
 have hq1_0' : c1_0 = _ := hq1_0
 obtain rfl : cs1 = #[.int .i64 u1_0, .int .i64 u1_1] := by
  have h_ := agg_of (l := [.int .i64 u1_0, .int .i64 u1_1]) (cs := cs1) (by rw [e1_0, hq1_0', hq1_1]; rfl)
  exact h_
 obtain ⟨b2, len2, cap2, rfl⟩ := okWide_slice Tryd.underlying60 (hval 2 60 v2 rfl rfl)
 have k2 := h2
 have lt2 : ∀ x ∈ p2, x.block < W.heap.size := by obtain ⟨m, hm⟩ := k2; exact DataW.trod_lt m _ _ _ hm
 obtain ⟨fuel2, hf2⟩ := h2
 obtain ⟨l2, ⟨A2, c2, hcs2, hc2, hr2⟩, hg2⟩ := (opens_slice Tryd.underlying60 (opens_slice Tryd.underlying28 (opens_int Tryd.underlying3) (by kernel_rfl)) (by kernel_rfl)) H enc W fuel2 _ _ hf2
 simp [Value.cells] at hcs2
 obtain ⟨rfl, rfl, rfl⟩ := hcs2
 clear hA0 hval0 hsz0
 obtain ⟨k, h⟩ := Pure.FeedFeeds u0_0 u0_1 u0_2 u1_0 u1_1 l2 g0_0 g0_1 g0_2 g1_0 g1_1 hg2
 refine (dropperlaw05_FeedFeeds.calls k u0_0 _ _ u0_1 _ _ u0_2 u1_0 u1_1 _ _ l2 true W hr0_1 hc0_1 hr0_2 hc0_2 hr2 hc2 (Laid.tabs_of hL) h).mono fun e W' ⟨he, bel0⟩ => ?_
 have bel : Below W.heap.size W W' := bel0
 subst he
 exact ⟨_, rfl, _, _, _, [], _, [], hW', trodAll_mk1 (shut_bool Tryd.underlying4 _), (trodAll_cons_mk (Below.trod laidOut (by kernel_rfl) (of_decide_eq_true (by kernel_rfl)) k0 bel lt0) (trodAll_cons_mk (Below.trod laidOut (by kernel_rfl) (of_decide_eq_true (by kernel_rfl)) k1 bel lt1) (trodAll_cons_mk (Below.trod laidOut (by kernel_rfl) (of_decide_eq_true (by kernel_rfl)) k2 bel lt2) trodAll_mk0))), rfl, bel.frame _, fun h => by cases h⟩
theorem over : Rows.feedFeedsRow.holds Tryd.pinned (OpenSpec.ofChange Rows.feedFeedsSpec) :=
 OpenClaim.holds_of_wide 9 Tryd.f9 rfl rfl rfl rfl rfl rfl rfl ⟨rfl, rfl, rfl, rfl, rfl⟩ rfl rfl rfl rfl rfl (by kernel_rfl) Tryd.func9 (by kernel_rfl)
  (of_decide_eq_true (by kernel_rfl)) (by unfold Func.isWrapper; first | (rw [if_pos (by decide +kernel)]; kernel_rfl) | (rw [if_neg (by decide +kernel)]; exact ⟨rfl, rfl⟩))
  (fun os started H enc _ => lifted os started H enc)
theorem card_holds : Rows.FeedFeedsCardSaid :=
 Claim7.holds_tied_plain_at .later [] [.data, .data] true (true, "93285ac14de4f79fe65648c4cc717cd0c2c76f26ec07f4016cc2c3bd3ccdb537") false
  over (fun _ h => by cases h) (by kernel_rfl) (fun _ h => by cases h) feedFeeds_row_tie rfl ⟨rfl, rfl⟩ (by kernel_rfl) rfl
  (fun f fn hf hfn => by
   obtain rfl : f = 9 := Option.some.inj ((show Tryd.prog.funcNamed "dropper/dropperlaw05.FeedFeeds" = some 9 by kernel_rfl).symm.trans hf) |>.symm
   obtain rfl : fn = Tryd.f9 := (Option.some.inj (Tryd.func9.symm.trans hfn)).symm
   exact ⟨by kernel_rfl, fun j t ht => by
    rw [Tryd.params9] at ht
    have hall : ∀ t ∈ (#[25, 43, 60] : Array TypeId), Tryd.prog.wantsStandIn t = false := by decide +kernel
    exact hall t (Array.mem_of_getElem? ht)⟩)
  (by kernel_rfl)
#print axioms card_holds
end Go.Proofs.YtoilhnmdemnknaaDoor.feedFeeds
namespace Go.Proofs.YtoilhnmdemnknaaDoor
theorem feedFeeds_holds : Rows.FeedFeedsCardSaid := feedFeeds.card_holds
end Go.Proofs.YtoilhnmdemnknaaDoor
