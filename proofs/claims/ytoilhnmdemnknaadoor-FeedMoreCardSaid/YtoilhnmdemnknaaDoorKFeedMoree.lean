-- Written by wip/pack.py of this repo: texts of this claim, put together.
import Derived.Test.YtoilhnmdemnknaaDoorRows
import Derived.ProofKit
import Derived.LaidMore
import Derived.OpenShut
import Derived.Stop.Joined
import Derived.Test.YtoilhnmdemnknaaDoorOpen
import Derived.Test.YtoilhnmdemnknaaDoorTie
import Derived.Test.YtoilhnmdemnknaaDoorCards
import Derived.SevenTiedAt
import Derived.WalkKit
import Derived.ShutString
import Derived.ChangeOld
import Derived.Below
import Derived.SizedLaws
import Derived.Test.YtoilhnmdemnknaaDoorKFeedMored
/- One more closed switch never makes a section dead, and a state that is right stays right if a switch is opened: by the connectedness of sections, which only grows with the closed switches. No condition but the statement's own. -/
namespace Go.Proofs.YtoilhnmdemnknaaDoor.Pure
set_option linter.unusedVariables false
set_option linter.unusedSimpArgs false
open Go.RowKit Go.Proofs.YtoilhnmdemnknaaDoor.XFeed Go.Proofs.YtoilhnmdemnknaaDoorW.PrintWords Go.Proofs.YtoilhnmdemnknaaDoorW.PrintLast Go.Proofs.YtoilhnmdemnknaaDoorW.PrintMore
open Go.Proofs.YtoilhnmdemnknaaDoor.Plain

theorem less_bits : ∀ a : Nat, a < 1024 → ∀ j : Nat, j < 10 → ((a ||| 2 ^ j) - 2 ^ j) &&& (a ||| 2 ^ j) = (a ||| 2 ^ j) - 2 ^ j ∧ 2 ^ j ≤ (a ||| 2 ^ j) := by decide +kernel
theorem more_l0 (n : Nat) (hn : n ≤ 8) (sw : List S69) (fe : List S71) (a b : List Int) (ha : a.length = n) (hb : b.length = n) (h : ∀ i, i < n → rd a (i : Int) ≠ 0 → rd b (i : Int) ≠ 0) :
    ∀ (d i : Nat), i + d = n → Ev (fun k => dropperlaw05_FeedMore.l0 k a b (i : Int) (n : Int) sw fe) true := by
  intro d
  induction d with
  | zero =>
    intro i hi
    refine Ev.step (fun k => by rw [dropperlaw05_FeedMore.l0]) ?_
    exact ev_neg (by omega) (Ev.bind first_ev (Ev.now _))
  | succ d ih =>
    intro i hi
    refine Ev.step (fun k => by rw [dropperlaw05_FeedMore.l0]) ?_
    rw [wrap_succ i (by omega)]
    refine ev_pos (by omega) (ev_pos (by omega) (ev_pos (by omega) ?_))
    by_cases h0 : rd a (i : Int) = 0
    · exact ev_pos h0 (ih (i + 1) (by omega))
    · exact ev_neg h0 (ev_pos (by omega) (ev_neg (h i (by omega) h0) (ih (i + 1) (by omega))))
theorem u16 {v : Int} (h : (Lit.int .u16 v).wf = true) : 0 ≤ v ∧ v ≤ 65535 := by simpa [Lit.wf, IntKind.min, IntKind.max, IntKind.signed, IntKind.bits] using h
theorem more_j0 {n : Nat} {sw : List S69} {fe : List S71} (h : GridOk (n : Int) sw fe) (u v : Nat) (hu : u ≤ 65535) (hv : v ≤ 65535) : Ev (fun k => dropperlaw05_FeedMore.j0 k false (n : Int) sw fe (u : Int) (v : Int)) true := by
  have hl := h.2.2.1
  have hn := h.2.1
  have hp : 2 ^ sw.length ≤ 2 ^ 10 := Nat.pow_le_pow_right (by decide) hl
  have hp0 : 0 < 2 ^ sw.length := Nat.pow_pos (by decide)
  refine Ev.step (fun k => by rw [dropperlaw05_FeedMore.j0]) (ev_neg (by simp) ?_)
  by_cases h0 : (sw.length : Int) = 0
  · exact ev_pos h0 (Ev.bind first_ev (Ev.now _))
  refine ev_neg h0 ?_
  have e1 : shl .i64 1 (sw.length : Int) = ((2 ^ sw.length : Nat) : Int) := by
    rw [show (1 : Int) = ((1 : Nat) : Int) from rfl, shl_i (by omega) (by omega), Nat.one_shiftLeft]
  have j1 : v % sw.length < sw.length := Nat.mod_lt _ (by omega)
  have hpj : 2 ^ (v % sw.length) < 2 ^ sw.length := Nat.pow_lt_pow_right (by decide) j1
  have e2 : Int.tmod (wrap64 (v : Int)) (sw.length : Int) = ((v % sw.length : Nat) : Int) := by
    rw [wrap_id (by omega) (by omega), Int.tmod_eq_emod_of_nonneg (by omega)]; rfl
  have e3 : Int.tmod (wrap64 (u : Int)) ((2 ^ sw.length : Nat) : Int) = ((u % 2 ^ sw.length : Nat) : Int) := by
    rw [wrap_id (by omega) (by omega), Int.tmod_eq_emod_of_nonneg (by omega)]; rfl
  have e4 : shl .i64 1 ((v % sw.length : Nat) : Int) = ((2 ^ (v % sw.length) : Nat) : Int) := by
    rw [show (1 : Int) = ((1 : Nat) : Int) from rfl, shl_i (by omega) (by omega), Nat.one_shiftLeft]
  have a1 : u % 2 ^ sw.length < 2 ^ sw.length := Nat.mod_lt _ hp0
  have m1 : u % 2 ^ sw.length ||| 2 ^ (v % sw.length) < 2 ^ sw.length := Nat.or_lt_two_pow a1 hpj
  obtain ⟨b1, b2⟩ := less_bits (u % 2 ^ sw.length) (by omega) (v % sw.length) (by omega)
  have e5 : Go.bits .or .i64 ((u % 2 ^ sw.length : Nat) : Int) ((2 ^ (v % sw.length) : Nat) : Int) = ((u % 2 ^ sw.length ||| 2 ^ (v % sw.length) : Nat) : Int) := or_i (by omega) (by omega)
  rw [e1, e2, e3, e4, e5]
  generalize u % 2 ^ sw.length ||| 2 ^ (v % sw.length) = more at *
  have e6 : wrap64 ((more : Int) - ((2 ^ (v % sw.length) : Nat) : Int)) = ((more - 2 ^ (v % sw.length) : Nat) : Int) := by
    generalize 2 ^ (v % sw.length) = Q at *
    rw [wrap_id (by omega) (by omega)]; omega
  rw [e6]
  generalize more - 2 ^ (v % sw.length) = less at *
  have hle : less < 2 ^ sw.length := by have := Nat.and_le_right (n := less) (m := more); omega
  have hbits : ∀ i, less.testBit i = true → more.testBit i = true := fun i hi => by
    have := congrArg (fun x => x.testBit i) b1
    simp only [Nat.testBit_and, hi, Bool.true_and] at this
    exact this
  obtain ⟨la, g1, g2, g3⟩ := Live_ok h hle
  obtain ⟨lb, g4, g5, g6⟩ := Live_ok h m1
  obtain ⟨ra, g7, g8⟩ := Right_ok h hle
  obtain ⟨rb, g9, g10⟩ := Right_ok h m1
  have hR : rb = true → ra = true := fun hb => g8.2 (fun i hi m hm => by
    obtain ⟨m', _, hm'⟩ := g6 i hi
    exact lv_right m hm.1 m' hm'.1 (mask_mono hbits hm hm') (g10.1 hb i hi m' hm'))
  have hend : ∀ b, b = false → Ev (fun k => dropperlaw05_FeedMore.j1 k la lb b (n : Int) sw fe) true := by
    rintro b rfl
    refine Ev.step (fun k => by rw [dropperlaw05_FeedMore.j1]) ?_
    refine ev_neg (by simp) ?_
    exact more_l0 n (by omega) sw fe la lb g2 g5 (fun i hi hne => by
      obtain ⟨m, e, hm⟩ := g3 i hi
      obtain ⟨m', e', hm'⟩ := g6 i hi
      rw [e] at hne
      rw [e']
      exact lv_live m hm.1 m' hm'.1 ⟨mask_mono hbits hm hm', mask_zero h.fe hm', hne⟩) n 0 (by omega)
  refine ev_neg (by omega) (ev_pos (by omega) ?_)
  refine Ev.bind g1 (Ev.bind g4 (Ev.bind g7 (Ev.bind g9 ?_)))
  refine ev_pos rfl (ev_pos rfl (ev_pos rfl (ev_pos rfl (ev_pos (by simp only []; omega) (ev_pos (by simp only []; omega) ?_)))))
  cases rb with
  | true => exact ev_pos rfl (hend _ (by rw [hR rfl]; rfl))
  | false => exact ev_neg (by simp) (hend _ rfl)
theorem FeedMore : dropperlaw05_FeedMore.Pure := by
  intro N sw fe u v _ _ _ hu hv
  refine Ev.rounds (r := true) (g := fun k => dropperlaw05_FeedMore.f k N sw fe u v) ?_
  have hu := u16 hu
  have hv := u16 hv
  obtain ⟨u, rfl⟩ := Int.eq_ofNat_of_zero_le hu.1
  obtain ⟨v, rfl⟩ := Int.eq_ofNat_of_zero_le hv.1
  unfold dropperlaw05_FeedMore.f
  refine Ev.bind (rvalid_ev N sw fe) ?_
  by_cases h : GridOk N sw fe
  · refine ev_pos (by simpa using h) ?_
    obtain ⟨n, rfl⟩ := Int.eq_ofNat_of_zero_le (show 0 ≤ N by have := h.1; omega)
    have hl := h.2.2.1
    have hp : 2 ^ sw.length ≤ 2 ^ 10 := Nat.pow_le_pow_right (by decide) hl
    have hj := more_j0 h u v (by omega) (by omega)
    obtain ⟨c, c1, c2, c3⟩ := States_ok h
    have e1 : shl .i64 1 (sw.length : Int) = ((2 ^ sw.length : Nat) : Int) := by
      rw [show (1 : Int) = ((1 : Nat) : Int) from rfl, shl_i (by omega) (by omega), Nat.one_shiftLeft]
    rw [e1]
    refine Ev.bind c1 (ev_pos rfl (ev_neg (by simp only []; omega) (ev_neg (by simp only []; omega) ?_)))
    by_cases hf : (fe.length : Int) = 0
    · refine ev_pos hf ?_
      have hfe : fe = [] := List.length_eq_zero_iff.1 (by omega)
      have hc := c3 (fun st hst i hi m hm => by
        subst hfe
        have : m = 0 := by
          apply Nat.eq_of_testBit_eq
          intro p
          rw [Nat.zero_testBit, Bool.eq_false_iff]
          intro hb
          obtain ⟨f, hf, _⟩ := (hm.2 p).1 hb
          simp at hf
        subst this
        decide)
      have : ((c : Int) != ((2 ^ sw.length : Nat) : Int)) = false := by rw [hc]; simp
      rw [this]
      exact hj
    · exact ev_neg hf hj
  · exact ev_neg (by simpa using h) (Ev.bind first_ev (Ev.now _))
end Go.Proofs.YtoilhnmdemnknaaDoor.Pure

/- From the rows' condition on the laid tables of math/bits to the table in the world. -/
namespace Go.Proofs.YtoilhnmdemnknaaDoor.Laid
open Go.ChangeShapes Go.WideShapes Go.ChangeAt Go.WideMaps Go.WideElems Go.RowKit Go.Proofs.YtoilhnmdemnknaaDoor

abbrev laid2 : List (String × DataW Unit) := [("math/bits.deBruijn32tab", Rows.laid_math_bits_deBruijn32tab), ("math/bits.deBruijn64tab", Rows.laid_math_bits_deBruijn64tab)]
theorem g32 : Tryd.prog.globalNamed "math/bits.deBruijn32tab" = some 0 := by kernel_rfl
theorem g64 : Tryd.prog.globalNamed "math/bits.deBruijn64tab" = some 1 := by kernel_rfl
theorem t64 : (Tryd.prog.globals[1]?).map (·.type) = some 142 := by kernel_rfl
theorem door_met (os : Os) (args : Array Value) : laidMetH Tryd.prog laid2 ((World.doorLaid Tryd.prog 4000 os).forCall (fun _ _ => 0) ⟨#[], args, []⟩).memory :=
  laidMetH_of_parts3 (fuel := 100) (laidMet_of_run' 100 (by kernel_rfl) (by kernel_rfl)) (by kernel_rfl) (by kernel_rfl)
theorem tabs_of {W : World} (h : laidMetH Tryd.prog laid2 W) : Tab.Tabs W := by
  rw [MakeChecks.laidMetH_plain _ _ _ (by kernel_rfl)] at h
  obtain ⟨ps, ⟨g0, t0, cs0, f0, p0, q0, hg0, ht0, hv0, hd0, ⟨g1, t1, cs1, f1, p1, q1, hg1, ht1, hv1, hd1, _, _⟩, _⟩, _, _⟩ := h
  obtain rfl := Option.some.inj (g64.symm.trans hg1)
  obtain rfl := Option.some.inj (t64.symm.trans ht1)
  obtain ⟨xs, m1, rfl, hx1, hlen, hn3, hel⟩ := DataW.trod_array Tryd.underlying142 hd1
  have hT : (Rows.laid_math_bits_deBruijn64tab : DataW Unit) = DataW.agg (Tab.tab64.map fun n => DataW.lit (.int .u8 n)) := rfl
  rw [hT] at hx1
  simp only [Prod.mk.injEq, DataW.agg.injEq] at hx1
  have c5 : Tryd.prog.cellsOf 5 = 1 := by kernel_rfl
  intro i hi
  have hix : i < xs.length := by omega
  have hlt : i < Tab.tab64.length := by show i < 64; exact hi
  have hi1 := hel i hi
  rw [List.getElem?_eq_getElem hix] at hi1
  obtain ⟨k, e1, e2, _⟩ := DataW.trod_int Tryd.underlying5 hi1
  have hk : (Tab.tab64.map fun n => (DataW.lit (.int .u8 n) : DataW Unit))[i]? = (xs.map fun x => x.1)[i]? := by rw [hx1.1]
  rw [List.getElem?_map, List.getElem?_map, List.getElem?_eq_getElem hix, List.getElem?_eq_getElem hlt, e2] at hk
  have hk2 : Tab.tab64[i] = k := by simpa using hk
  have hc := World.var?_cell hg1 hv1 i
  rw [hc, List.getD_eq_getElem?_getD, List.getElem?_eq_getElem hlt, hk2]
  rw [c5, Nat.mul_one] at e1
  have hd : cs1.toList[i]? = some (.int .u8 k) := by
    have h0 := congrArg (fun l => l[0]?) e1
    simpa [List.getElem?_take, List.getElem?_drop] using h0
  simpa using hd
end Go.Proofs.YtoilhnmdemnknaaDoor.Laid

-- Written by wip/xprint.py of this repo, over the kit's print.py: out of the translation; the oracles in it are by hand. Not trusted: Lean checks it.
namespace Go.Proofs.YtoilhnmdemnknaaDoor.feedMore
open Go.ChangeShapes Go.WideShapes Go.ChangeAt Go.RowKit Go.Proofs.YtoilhnmdemnknaaDoor.Open Go.Proofs.YtoilhnmdemnknaaDoor.XFeed Go.Proofs.YtoilhnmdemnknaaDoorW.PrintWords Go.Proofs.YtoilhnmdemnknaaDoorW.PrintLast Go.Proofs.YtoilhnmdemnknaaDoorW.PrintMore
open Go.ChangeMaps (open_string shut_string)
set_option linter.unusedVariables false
set_option linter.unusedSimpArgs false
theorem own : ownKnob Tryd.prog.godebug = none := by kernel_rfl
theorem laidOut : laidOutB Tryd.prog = true := by kernel_rfl
set_option maxRecDepth 100000 in
theorem lifted (os : Os) (started : os.Started) (H : Type) (enc : TypeId × Value → H) :
    ReturnsInHanded {} Tryd.checked os 4 .any (fun w args => (Rows.feedMoreSpec.pre enc Tryd.prog Tryd.f4 [] false w args ∧ laidMetH Tryd.prog Laid.laid2 w) ∧ sizedMet enc Tryd.prog Tryd.f4 (OpenSpec.ofChange Rows.feedMoreSpec) false w args) (Rows.feedMoreSpec.post enc Tryd.prog Tryd.f4 false true false false) := by
  refine returnsInHanded_of_change_and (C := Tryd.checked) (X := fun w _ => laidMetH Tryd.prog Laid.laid2 w) (fun _ _ _ hh h => h.of_heap hh) own started (by kernel_rfl) Tryd.func4
    (ChangeSpec.witness_shaped (enc := enc) (C := Tryd.checked) (os := os) (X := fun w _ => laidMetH Tryd.prog Laid.laid2 w) false (World.doorLaid Tryd.prog 4000 os) #[.agg #[.int .i64 0, .slice none 0 0, .slice none 0 0], .agg #[.int .u16 0, .int .u16 0]] 8 rfl (World.shaped_of_RefB (by kernel_rfl) (by kernel_rfl)) (by kernel_rfl) (by kernel_rfl) (by kernel_rfl) (Laid.door_met os _)) ?_
  intro W base args ds gs before hval0 hW hcnd hsz0 hL _
  have hval : ∀ (j : Nat) t v, Tryd.f4.params[j]? = some t → args[j]? = some v → Value.okWide Tryd.prog W .any base t v := hval0
  have hW' := hW
  obtain ⟨p, q, hA0, hV, rfl, hfz, hnd⟩ := hW
  have hA : DataW.TrodAll enc Tryd.prog W 0 (fun _ => true) true Tryd.f4.params.toList args.toList ds p := hA0
  rw [Tryd.params4] at hA hval
  obtain ⟨v0, vs0, d0, ds0, p0, q0, hargs, rfl, rfl, h0, r0⟩ := trodAll_cons hA
  obtain ⟨v1, vs1, d1, ds1, p1, q1, rfl, rfl, rfl, h1, r1⟩ := trodAll_cons r0
  obtain ⟨rfl, rfl, rfl⟩ := trodAll_nil r1
  obtain rfl : args = #[v0, v1] := by cases args; simp_all
  obtain ⟨rfl, rfl⟩ := trodVars_none hV
  obtain ⟨cs0, rfl, hz0⟩ := okWide_struct Tryd.underlying25 (hval 0 25 v0 rfl rfl)
  have k0 := h0
  have lt0 : ∀ x ∈ p0, x.block < W.heap.size := by obtain ⟨m, hm⟩ := k0; exact DataW.trod_lt m _ _ _ hm
  obtain ⟨fuel0, hf0⟩ := h0
  obtain ⟨⟨u0_0, u0_1, u0_2⟩, hK0, hG0⟩ := (opens_struct Tryd.underlying25 (by kernel_rfl) (opensF_cons rfl (by kernel_rfl) (opens_int Tryd.underlying3) (opensF_cons rfl (by kernel_rfl) (opens_slice Tryd.underlying22 (opens_iso (f := fun x : S69 => (x.f0, x.f1)) (fun p => ⟨p.1, p.2⟩) (fun _ => rfl) (opens_struct Tryd.underlying69 (by kernel_rfl) (opensF_cons rfl (by kernel_rfl) (opens_int Tryd.underlying3) (opensF_one rfl (by kernel_rfl) (opens_int Tryd.underlying3))))) (by kernel_rfl)) (opensF_one rfl (by kernel_rfl) (opens_slice Tryd.underlying23 (opens_iso (f := fun x : S71 => (x.f0, x.f1)) (fun p => ⟨p.1, p.2⟩) (fun _ => rfl) (opens_struct Tryd.underlying71 (by kernel_rfl) (opensF_cons rfl (by kernel_rfl) (opens_int Tryd.underlying3) (opensF_one rfl (by kernel_rfl) (opens_int Tryd.underlying3))))) (by kernel_rfl)))))) H enc W fuel0 _ _ hf0
  obtain ⟨c0_0, r0_0, e0_0, hk0_0, c0_1, r0_1, e0_1, hk0_1, hk0_2⟩ := hK0
  obtain ⟨g0_0, g0_1, g0_2⟩ := hG0
  have hq0_0 := hk0_0
  obtain ⟨A0_1, q0_1, hq0_1, hc0_1, hr0_1⟩ := hk0_1
  obtain ⟨A0_2, q0_2, hq0_2, hc0_2, hr0_2⟩ := hk0_2
  have hq0_0' : c0_0 = _ := hq0_0
  have hq0_1' : c0_1 = _ := hq0_1
  obtain rfl : cs0 = #[.int .i64 u0_0, .slice A0_1 u0_1.length q0_1, .slice A0_2 u0_2.length q0_2] := by
    have h_ := agg_of (l := [.int .i64 u0_0, .slice A0_1 u0_1.length q0_1, .slice A0_2 u0_2.length q0_2]) (cs := cs0) (by rw [e0_0, hq0_0', e0_1, hq0_1', hq0_2]; rfl)
    exact h_
  obtain ⟨cs1, rfl, hz1⟩ := okWide_array Tryd.underlying40 (hval 1 40 v1 rfl rfl)
  have k1 := h1
  have lt1 : ∀ x ∈ p1, x.block < W.heap.size := by obtain ⟨m, hm⟩ := k1; exact DataW.trod_lt m _ _ _ hm
  obtain ⟨fuel1, hf1⟩ := h1
  obtain ⟨⟨u1_0, u1_1⟩, hK1, hG1⟩ := (opens_two Tryd.underlying40 (by kernel_rfl) (by kernel_rfl) (opens_int Tryd.underlying39)) H enc W fuel1 _ _ hf1
  obtain ⟨c1_0, r1_0, e1_0, hk1_0, hk1_1⟩ := hK1
  obtain ⟨g1_0, g1_1⟩ := hG1
  have hq1_0 := hk1_0
  have hq1_1 := hk1_1
  have hq1_0' : c1_0 = _ := hq1_0
  obtain rfl : cs1 = #[.int .u16 u1_0, .int .u16 u1_1] := by
    have h_ := agg_of (l := [.int .u16 u1_0, .int .u16 u1_1]) (cs := cs1) (by rw [e1_0, hq1_0', hq1_1]; rfl)
    exact h_
  clear hA0 hval0 hsz0
  obtain ⟨k, h⟩ := Pure.FeedMore u0_0 u0_1 u0_2 u1_0 u1_1 g0_0 g0_1 g0_2 g1_0 g1_1
  refine (dropperlaw05_FeedMore.calls k u0_0 _ _ u0_1 _ _ u0_2 u1_0 u1_1 true W hr0_1 hc0_1 hr0_2 hc0_2 (Laid.tabs_of hL) h).mono fun e W' ⟨he, bel0⟩ => ?_
  have bel : Below W.heap.size W W' := bel0
  subst he
  exact ⟨_, rfl, _, _, _, [], _, [], hW', trodAll_mk1 (shut_bool Tryd.underlying4 _), (trodAll_cons_mk (Below.trod laidOut (by kernel_rfl) (of_decide_eq_true (by kernel_rfl)) k0 bel lt0) (trodAll_cons_mk (Below.trod laidOut (by kernel_rfl) (of_decide_eq_true (by kernel_rfl)) k1 bel lt1) trodAll_mk0)), rfl, bel.frame _, fun h => by cases h⟩
theorem over : Rows.feedMoreRow.holds Tryd.pinned (OpenSpec.ofChange Rows.feedMoreSpec) :=
  OpenClaim.holds_of_wide 4 Tryd.f4 rfl rfl rfl rfl rfl rfl rfl ⟨rfl, rfl, rfl, rfl, rfl⟩ rfl rfl rfl rfl rfl (by kernel_rfl) Tryd.func4 (by kernel_rfl)
    (of_decide_eq_true (by kernel_rfl)) (by unfold Func.isWrapper; first | (rw [if_pos (by decide +kernel)]; kernel_rfl) | (rw [if_neg (by decide +kernel)]; exact ⟨rfl, rfl⟩))
    (fun os started H enc _ => lifted os started H enc)
theorem card_holds : Rows.FeedMoreCardSaid :=
  Claim7.holds_tied_plain_at .later [] [.data, .data] true (true, "93285ac14de4f79fe65648c4cc717cd0c2c76f26ec07f4016cc2c3bd3ccdb537") false
    over (fun _ h => by cases h) (by kernel_rfl) (fun _ h => by cases h) feedMore_row_tie rfl ⟨rfl, rfl⟩ (by kernel_rfl) rfl
    (fun f fn hf hfn => by
      obtain rfl : f = 4 := Option.some.inj ((show Tryd.prog.funcNamed "dropper/dropperlaw05.FeedMore" = some 4 by kernel_rfl).symm.trans hf) |>.symm
      obtain rfl : fn = Tryd.f4 := (Option.some.inj (Tryd.func4.symm.trans hfn)).symm
      exact ⟨by kernel_rfl, fun j t ht => by
        rw [Tryd.params4] at ht
        have hall : ∀ t ∈ (#[25, 40] : Array TypeId), Tryd.prog.wantsStandIn t = false := by decide +kernel
        exact hall t (Array.mem_of_getElem? ht)⟩)
    (by kernel_rfl)
#print axioms card_holds
end Go.Proofs.YtoilhnmdemnknaaDoor.feedMore
namespace Go.Proofs.YtoilhnmdemnknaaDoor
/-- The row, under a short name, for the claim. -/
theorem feedMore_holds : Rows.FeedMoreCardSaid := feedMore.card_holds
end Go.Proofs.YtoilhnmdemnknaaDoor
