-- Written by wip/pack.py of this repo: texts of this claim, put together.
import Derived.Test.YtcmdcgghpkcchaaDoorKMaste
namespace Go.Proofs.YtcmdcgghpkcchaaDoor.XMast
open Go.RowKit Go.Proofs.YtcmdcgghpkcchaaDoorW.PrintWords Go.Proofs.YtcmdcgghpkcchaaDoorW.PrintLast Go.Proofs.YtcmdcgghpkcchaaDoorW.PrintMore
attribute [local go_sem] max2_int min2_int max_two min_two max_three min_three max_four min_four   -- for this text's walks alone
set_option linter.unusedVariables false
set_option linter.unusedSimpArgs false
/-! ### dropperref01_Under: function 36 -/
def dropperref01_Under.f (k : Nat) (l0 : List (S46)) (l1 : List (S46)) : Option (Bool × Int) := (dropperref01_Without.f k l0 l1).bind fun bt373 => (if bt373.2 = 10 then (some (false, bt373.2)) else (if bt373.2 = 0 then (some (((bt373.1.length : Int) == 0), 0)) else (some (false, 0))))
set_option maxHeartbeats 8000000 in
set_option maxRecDepth 100000 in
theorem dropperref01_Under.calls (k : Nat) (A0 : Option Addr) (c0 : Nat) (l0 : List (S46)) (A1 : Option Addr) (c1 : Nat) (l1 : List (S46)) (r1 : Bool) (r2 : Int) (w : World) (hr0 : Kd.C k46 w A0 l0.length l0) (hc0 : l0.length ≤ c0) (hr1 : Kd.C k46 w A1 l1.length l1) (hc1 : l1.length ≤ c1) (h : dropperref01_Under.f k l0 l1 = some (r1, r2)) :
  Calls Tryd.prog 36 #[.slice A0 l0.length c0, .slice A1 l1.length c1] w fun e w' => e = .returned (.tuple #[.bool r1, .int .i64 r2]) ∧ Below w.heap.size w w' := by
 have HR0 := Aside0.mk hr0
 have HC0 := Aside0.mk hc0
 clear hr0 hc0
 have HR1 := Aside0.mk hr1
 have HC1 := Aside0.mk hc1
 clear hr1 hc1
 have HB := Aside0.mk (Below.refl w.heap.size w)
 have H : ((dropperref01_Without.f k l0 l1).bind fun bt373 => (if bt373.2 = 10 then (some (false, bt373.2)) else (if bt373.2 = 0 then (some (((bt373.1.length : Int) == 0), 0)) else (some (false, 0))))) = some (r1, r2) := h
 clear h
 replace H := Option.bind_eq_some_iff.mp H
 obtain ⟨⟨t373, t374⟩, A30, H⟩ := H
 try dsimp only at H
 have A3 := Aside0.mk A30
 clear A30
 by_cases c4 : t374 = 10
 ·
  rw [if_pos c4] at H
  have c4b0 : (t374 == 10) = true := beq_iff_eq.mpr c4
  have c4b1 : (t374 != 10) = false := bne_eq_false_iff_eq.mpr c4
  clear c4
  simp only [Option.some.injEq, Prod.mk.injEq] at H
  obtain ⟨rfl, rfl⟩ := H
  go_enter Tryd.func36, Tryd.ntmps36
  go_wp2_with (first | ((with_reducible refine gate_callee (f := 34) rfl ?_); refine goesL_ (some 11) rfl rfl Tryd.func34 (by kernel_rfl) rfl #[.slice A0 l0.length c0, .slice A1 l1.length c1] rfl mapz ?_; (with_reducible refine (dropperref01_Without.calls k _ _ l0 _ _ l1 t373 t374 _ ?side1 HC0.out ?side3 HC1.out A3.out).mono ?_); (case side1 => repeat (first | exact HR0.out | (with_reducible refine Kd.C_alloc ?_ _) | (with_reducible refine Kd.C_drewN ?_ _) | (with_reducible refine Kd.C_drew ?_))); (case side3 => repeat (first | exact HR1.out | (with_reducible refine Kd.C_alloc ?_ _) | (with_reducible refine Kd.C_drewN ?_ _) | (with_reducible refine Kd.C_drew ?_))); rintro e w5 ⟨v375, rfl, ho0, hb⟩; refine ⟨_, rfl, ?_⟩; have HO376 := Aside0.mk (Kd.R_lower ho0 (below_size bel)); replace HB := Aside0.mk (below_step bel hb); (try clear hb); (try clear hb2); (try clear hk); (try clear hi); (try clear ho0)))
  go_ret2
  exact ⟨ezz, bel⟩
 ·
  rw [if_neg c4] at H
  have c4b0 : (t374 == 10) = false := beq_eq_false_iff_ne.mpr c4
  have c4b1 : (t374 != 10) = true := bne_iff_ne.mpr c4
  by_cases c6 : t374 = 0
  ·
   rw [if_pos c6] at H
   have c6b0 : (t374 == 0) = true := beq_iff_eq.mpr c6
   have c6b1 : (t374 != 0) = false := bne_eq_false_iff_eq.mpr c6
   clear c6
   simp only [Option.some.injEq, Prod.mk.injEq] at H
   obtain ⟨rfl, rfl⟩ := H
   go_enter Tryd.func36, Tryd.ntmps36
   go_wp2_with (first | ((with_reducible refine gate_callee (f := 34) rfl ?_); refine goesL_ (some 11) rfl rfl Tryd.func34 (by kernel_rfl) rfl #[.slice A0 l0.length c0, .slice A1 l1.length c1] rfl mapz ?_; (with_reducible refine (dropperref01_Without.calls k _ _ l0 _ _ l1 t373 t374 _ ?side1 HC0.out ?side3 HC1.out A3.out).mono ?_); (case side1 => repeat (first | exact HR0.out | (with_reducible refine Kd.C_alloc ?_ _) | (with_reducible refine Kd.C_drewN ?_ _) | (with_reducible refine Kd.C_drew ?_))); (case side3 => repeat (first | exact HR1.out | (with_reducible refine Kd.C_alloc ?_ _) | (with_reducible refine Kd.C_drewN ?_ _) | (with_reducible refine Kd.C_drew ?_))); rintro e w7 ⟨v375, rfl, ho0, hb⟩; refine ⟨_, rfl, ?_⟩; have HO376 := Aside0.mk (Kd.R_lower ho0 (below_size bel)); replace HB := Aside0.mk (below_step bel hb); (try clear hb); (try clear hb2); (try clear hk); (try clear hi); (try clear ho0); obtain ⟨Ao8, co8, eo8⟩ := Kd.R_slice HO376.out; subst eo8))
   go_ret2
   exact ⟨ezz, bel⟩
  ·
   rw [if_neg c6] at H
   have c6b0 : (t374 == 0) = false := beq_eq_false_iff_ne.mpr c6
   have c6b1 : (t374 != 0) = true := bne_iff_ne.mpr c6
   simp only [Option.some.injEq, Prod.mk.injEq] at H
   obtain ⟨rfl, rfl⟩ := H
   go_enter Tryd.func36, Tryd.ntmps36
   go_wp2_with (first | ((with_reducible refine gate_callee (f := 34) rfl ?_); refine goesL_ (some 11) rfl rfl Tryd.func34 (by kernel_rfl) rfl #[.slice A0 l0.length c0, .slice A1 l1.length c1] rfl mapz ?_; (with_reducible refine (dropperref01_Without.calls k _ _ l0 _ _ l1 t373 t374 _ ?side1 HC0.out ?side3 HC1.out A3.out).mono ?_); (case side1 => repeat (first | exact HR0.out | (with_reducible refine Kd.C_alloc ?_ _) | (with_reducible refine Kd.C_drewN ?_ _) | (with_reducible refine Kd.C_drew ?_))); (case side3 => repeat (first | exact HR1.out | (with_reducible refine Kd.C_alloc ?_ _) | (with_reducible refine Kd.C_drewN ?_ _) | (with_reducible refine Kd.C_drew ?_))); rintro e w9 ⟨v375, rfl, ho0, hb⟩; refine ⟨_, rfl, ?_⟩; have HO376 := Aside0.mk (Kd.R_lower ho0 (below_size bel)); replace HB := Aside0.mk (below_step bel hb); (try clear hb); (try clear hb2); (try clear hk); (try clear hi); (try clear ho0)))
   go_ret2
   exact ⟨ezz, bel⟩

/-! ### mast_Rest: function 25 -/
def mast_Rest.p (lv : Int) : Bool := lv == 0
theorem mast_Rest.clos (lv : Int) (w : World) : Calls Tryd.prog 55 #[.int .i64 lv] w fun e w' => e = .returned (.bool (mast_Rest.p lv)) ∧ w' = w := by
 unfold mast_Rest.p
 go_enter Tryd.func55, Tryd.ntmps55
 go_wp2
 go_ret
 exact ⟨rfl, rfl⟩
theorem mast_Rest.enter (vs : Array Value) (W : World) : (callFunc 55 vs).run Tryd.prog W = .ok (.enter 55 vs) W := enters_ Tryd.func55 (by kernel_rfl) (by kernel_rfl) vs W
def mast_Rest.f (k : Nat) (l0 : List S46) : Option (List S46 × Int) := Lay.bothF mast_Rest.p k l0 []
theorem mast_Rest.calls (k : Nat) (A0 : Option Addr) (c0 : Nat) (l0 : List S46) (r1 : List S46) (r2 : Int) (w : World) (hr0 : Kd.C k46 w A0 l0.length l0) (hc0 : l0.length ≤ c0) (h : mast_Rest.f k l0 = some (r1, r2)) :
  Calls Tryd.prog 25 #[.slice A0 l0.length c0] w fun e w' => ∃ v0_ : Value, e = .returned (.tuple #[v0_, .int .i64 r2]) ∧ Kd.R k46 46 w' w.heap.size (fun _ => True) v0_ r1 ∧ Below w.heap.size w w' := by
 obtain ⟨An, cn, en, hcn, hrn⟩ := Kd.R_reads (Kd.R_nil k46 46 w w.heap.size (fun _ => True))
 injection en with e1 e2 e3
 subst e1 e3
 have H := Aside0.mk (Lay.both 55 mast_Rest.p mast_Rest.enter mast_Rest.clos k A0 c0 l0 none 0 [] r1 r2 w hr0 hc0 hrn hcn h)
 clear hr0 hrn hcn hc0 h e2
 go_enter Tryd.func25, Tryd.ntmps25
 go_wp2_with (go_at_call 54; (refine H.out.mono ?_); rintro e w1 ⟨v0, rfl, ho, hb⟩; have HO := Aside0.mk ho; have HB := Aside0.mk hb; clear ho hb)
 go_ret2
 exact ⟨_, rfl, HO.out, HB.out⟩

/-! ### dropperref01_Rest: function 26 -/
def dropperref01_Rest.f (k : Nat) (l0 : List (S46)) : Option ((List (S46)) × Int) := (dropperref01_together.f k (([(⟨0, 100000⟩ : S46)] : List (S46))) l0 3).bind fun bt320 => (some (bt320.1, bt320.2))
set_option maxHeartbeats 8000000 in
set_option maxRecDepth 100000 in
theorem dropperref01_Rest.calls (k : Nat) (A0 : Option Addr) (c0 : Nat) (l0 : List (S46)) (r1 : List (S46)) (r2 : Int) (w : World) (hr0 : Kd.C k46 w A0 l0.length l0) (hc0 : l0.length ≤ c0) (h : dropperref01_Rest.f k l0 = some (r1, r2)) :
  Calls Tryd.prog 26 #[.slice A0 l0.length c0] w fun e w' => ∃ v0_ : Value, e = .returned (.tuple #[v0_, .int .i64 r2]) ∧ Kd.R k46 46 w' w.heap.size (fun _ => True) v0_ r1 ∧ Below w.heap.size w w' := by
 have hu46 := Tryd.underlying46
 have HR0 := Aside0.mk hr0
 have HC0 := Aside0.mk hc0
 clear hr0 hc0
 have HB := Aside0.mk (Below.refl w.heap.size w)
 have H : ((dropperref01_together.f k (([(⟨0, 100000⟩ : S46)] : List (S46))) l0 3).bind fun bt320 => (some (bt320.1, bt320.2))) = some (r1, r2) := h
 clear h
 obtain ⟨y317, hy317⟩ : ∃ y_ : List (S46), y_ = (([(⟨0, 100000⟩ : S46)] : List (S46))) := ⟨_, rfl⟩
 replace H : ((dropperref01_together.f k y317 l0 3).bind fun bt320 => (some (bt320.1, bt320.2))) = some (r1, r2) := by first | (rw [hy317]; with_reducible exact H) | (have H2_ := (Option.bind_some _ _).symm.trans H; rw [hy317]; with_reducible exact H2_) | (have H2_ := (Option.bind_some _ _).symm.trans H; with_reducible exact H2_) | with_reducible exact H | (rw [hy317]; exact H) | exact H
 have Ny317 := Aside0.mk hy317
 clear hy317
 replace H := Option.bind_eq_some_iff.mp H
 obtain ⟨⟨t320, t321⟩, A20, H⟩ := H
 try dsimp only at H
 have A2 := Aside0.mk A20
 clear A20
 simp only [Option.some.injEq, Prod.mk.injEq] at H
 obtain ⟨rfl, rfl⟩ := H
 go_enter Tryd.func26, Tryd.ntmps26
 go_wp2_with (first | ((with_reducible refine gate_dst (N := 5) rfl ?_); refine Kd.R_lit k46 _ 46 ?hg (N := 5) ?hd (xs := ([(⟨0, 100000⟩ : S46)] : List (S46))) (inner := [.int .i64 0, .int .i64 100000]) (ok := fun _ => True) (okp := fun _ => True) ?hr ?hp (fun _ hk => hk) trivial (Below.refl _ _) (Nat.le_refl _) (by simp) ?_; (case hd => rfl); (case hg => rfl); (case hr => first | (go_simp; done) | (go_simp; rfl)); (case hp => exact (Reps.c2 (show Kd.M k46 _ _ _ (⟨0, 100000⟩ : S46) [.int .i64 0, .int .i64 100000] from (k46_mkM _ _ _ (⟨0, 100000⟩ : S46) )) (Reps.none _ _))); intro v318 w3 ho4 hb hg_ hnew_; clear hg_ hnew_; (first | rw [← Ny317.out] at ho4 | (simp only [Int.reduceToNat] at ho4; rw [← Ny317.out] at ho4)); have HO319 := Aside0.mk (Kd.R_lower ho4 (below_size bel)); replace HB := Aside0.mk (below_step bel hb); clear hb ho4; obtain ⟨Ao5, co5, eo5⟩ := Kd.R_slice HO319.out; subst eo5) | ((with_reducible refine gate_callee (f := 56) rfl ?_); refine goesL_ (some 7) rfl rfl Tryd.func56 (by kernel_rfl) rfl #[.slice Ao5 y317.length co5, .slice A0 l0.length c0, .int .i64 3] rfl mapz ?_; (with_reducible refine (dropperref01_together.calls k _ _ y317 _ _ l0 3 t320 t321 _ ?side1 ?side2 (cbz HR0) HC0.out A2.out).mono ?_); (case side1 => repeat (first | exact (Kd.R_reads' HO319.out).2.2 | (with_reducible refine Kd.C_alloc ?_ _) | (with_reducible refine Kd.C_drewN ?_ _) | (with_reducible refine Kd.C_drew ?_))); (case side2 => exact (Kd.R_reads' HO319.out).2.1); rintro e w6 ⟨v322, rfl, ho0, hb⟩; refine ⟨_, rfl, ?_⟩; have HO323 := Aside0.mk (Kd.R_lower (Kd.R_new' ho0 (Kd.R_lt (ownx HO319))) (below_size bel)); replace HO319 := Aside0.mk (Kd.R_elder' (ownx HO319) (Kd.R_base ho0) hb); replace HB := Aside0.mk (below_step bel hb); (try clear hb); (try clear hb2); (try clear hk); (try clear hi); (try clear ho0)))
 go_ret2
 exact ⟨_, ezz, by (with_reducible repeat (first | apply Kd.R_alloc | apply Kd.R_drewN | apply Kd.R_drew)); exact Kd.R_mono HO323.out (fun _ hk => trivial), bel⟩

/-! ### mast_Has: function 21 -/
def mast_Has.f (k : Nat) (l0 : List (S46)) (a1 : Int) : Option (Bool × Int) := (mast_Valid.f k l0).bind fun t239 => (if t239 = true then ((mast_has.f l0 a1).bind fun t240 => (some (t240, 0))) else (some (false, 10)))
set_option maxHeartbeats 8000000 in
set_option maxRecDepth 100000 in
theorem mast_Has.calls (k : Nat) (A0 : Option Addr) (c0 : Nat) (l0 : List (S46)) (a1 : Int) (r1 : Bool) (r2 : Int) (w : World) (hr0 : Kd.C k46 w A0 l0.length l0) (hc0 : l0.length ≤ c0) (h : mast_Has.f k l0 a1 = some (r1, r2)) :
  Calls Tryd.prog 21 #[.slice A0 l0.length c0, .int .i64 a1] w fun e w' => e = .returned (.tuple #[.bool r1, .int .i64 r2]) ∧ Below w.heap.size w w' := by
 have HR0 := Aside0.mk hr0
 have HC0 := Aside0.mk hc0
 clear hr0 hc0
 have HB := Aside0.mk (Below.refl w.heap.size w)
 have H : ((mast_Valid.f k l0).bind fun t239 => (if t239 = true then ((mast_has.f l0 a1).bind fun t240 => (some (t240, 0))) else (some (false, 10)))) = some (r1, r2) := h
 clear h
 replace H := Option.bind_eq_some_iff.mp H
 obtain ⟨t239, A30, H⟩ := H
 try dsimp only at H
 have A3 := Aside0.mk A30
 clear A30
 by_cases c4 : t239 = true
 ·
  subst c4
  rw [if_pos rfl] at H
  replace H := Option.bind_eq_some_iff.mp H
  obtain ⟨t240, A50, H⟩ := H
  try dsimp only at H
  have A5 := Aside0.mk A50
  clear A50
  simp only [Option.some.injEq, Prod.mk.injEq] at H
  obtain ⟨rfl, rfl⟩ := H
  go_enter Tryd.func21, Tryd.ntmps21
  go_wp2_with (first | ((with_reducible refine gate_callee (f := 50) rfl ?_); refine goesL_ (some 7) rfl rfl Tryd.func50 (by kernel_rfl) rfl #[.slice A0 l0.length c0] rfl mapz ?_; (with_reducible refine (mast_Valid.calls k _ _ l0 true _ ?side1 HC0.out A3.out).mono ?_); (case side1 => repeat (first | exact HR0.out | (with_reducible refine Kd.C_alloc ?_ _) | (with_reducible refine Kd.C_drewN ?_ _) | (with_reducible refine Kd.C_drew ?_))); rintro e w6 ⟨rfl, hb⟩; refine ⟨_, rfl, ?_⟩; replace HB := Aside0.mk (below_step bel hb); clear hb) | ((with_reducible refine gate_callee (f := 52) rfl ?_); refine goesL_ (some 11) rfl rfl Tryd.func52 (by kernel_rfl) rfl #[.slice A0 l0.length c0, .int .i64 a1] rfl mapz ?_; (with_reducible refine (mast_has.calls _ _ l0 a1 t240 _ (cbz HR0) HC0.out A5.out).mono ?_); rintro e w7 ⟨rfl, hb⟩; refine ⟨_, rfl, ?_⟩; replace HB := Aside0.mk (below_step bel hb); clear hb))
  go_ret2
  exact ⟨ezz, bel⟩
 ·
  replace c4 := Bool.eq_false_iff.mpr c4
  subst c4
  rw [if_neg (show ¬ (false = true) by decide)] at H
  simp only [Option.some.injEq, Prod.mk.injEq] at H
  obtain ⟨rfl, rfl⟩ := H
  go_enter Tryd.func21, Tryd.ntmps21
  go_wp2_with (first | ((with_reducible refine gate_callee (f := 50) rfl ?_); refine goesL_ (some 7) rfl rfl Tryd.func50 (by kernel_rfl) rfl #[.slice A0 l0.length c0] rfl mapz ?_; (with_reducible refine (mast_Valid.calls k _ _ l0 false _ ?side1 HC0.out A3.out).mono ?_); (case side1 => repeat (first | exact HR0.out | (with_reducible refine Kd.C_alloc ?_ _) | (with_reducible refine Kd.C_drewN ?_ _) | (with_reducible refine Kd.C_drew ?_))); rintro e w8 ⟨rfl, hb⟩; refine ⟨_, rfl, ?_⟩; replace HB := Aside0.mk (below_step bel hb); clear hb))
  go_ret2
  exact ⟨ezz, bel⟩

/-! ### dropperref01_Has: function 22 -/
def dropperref01_Has.f (k : Nat) (l0 : List (S46)) (a1 : Int) : Option (Bool × Int) := (dropperref01_Valid.f k l0).bind fun t241 => (if t241 = true then ((dropperref01_depth.f k l0 a1).bind fun t242 => (some (decide (t242 > 0), 0))) else (some (false, 10)))
set_option maxHeartbeats 8000000 in
set_option maxRecDepth 100000 in
theorem dropperref01_Has.calls (k : Nat) (A0 : Option Addr) (c0 : Nat) (l0 : List (S46)) (a1 : Int) (r1 : Bool) (r2 : Int) (w : World) (hr0 : Kd.C k46 w A0 l0.length l0) (hc0 : l0.length ≤ c0) (h : dropperref01_Has.f k l0 a1 = some (r1, r2)) :
  Calls Tryd.prog 22 #[.slice A0 l0.length c0, .int .i64 a1] w fun e w' => e = .returned (.tuple #[.bool r1, .int .i64 r2]) ∧ Below w.heap.size w w' := by
 have HR0 := Aside0.mk hr0
 have HC0 := Aside0.mk hc0
 clear hr0 hc0
 have HB := Aside0.mk (Below.refl w.heap.size w)
 have H : ((dropperref01_Valid.f k l0).bind fun t241 => (if t241 = true then ((dropperref01_depth.f k l0 a1).bind fun t242 => (some (decide (t242 > 0), 0))) else (some (false, 10)))) = some (r1, r2) := h
 clear h
 replace H := Option.bind_eq_some_iff.mp H
 obtain ⟨t241, A30, H⟩ := H
 try dsimp only at H
 have A3 := Aside0.mk A30
 clear A30
 by_cases c4 : t241 = true
 ·
  subst c4
  rw [if_pos rfl] at H
  replace H := Option.bind_eq_some_iff.mp H
  obtain ⟨t242, A50, H⟩ := H
  try dsimp only at H
  have A5 := Aside0.mk A50
  clear A50
  simp only [Option.some.injEq, Prod.mk.injEq] at H
  obtain ⟨rfl, rfl⟩ := H
  go_enter Tryd.func22, Tryd.ntmps22
  go_wp2_with (first | ((with_reducible refine gate_callee (f := 37) rfl ?_); refine goesL_ (some 7) rfl rfl Tryd.func37 (by kernel_rfl) rfl #[.slice A0 l0.length c0] rfl mapz ?_; (with_reducible refine (dropperref01_Valid.calls k _ _ l0 true _ ?side1 HC0.out A3.out).mono ?_); (case side1 => repeat (first | exact HR0.out | (with_reducible refine Kd.C_alloc ?_ _) | (with_reducible refine Kd.C_drewN ?_ _) | (with_reducible refine Kd.C_drew ?_))); rintro e w6 ⟨rfl, hb⟩; refine ⟨_, rfl, ?_⟩; replace HB := Aside0.mk (below_step bel hb); clear hb) | ((with_reducible refine gate_callee (f := 49) rfl ?_); refine goesL_ (some 11) rfl rfl Tryd.func49 (by kernel_rfl) rfl #[.slice A0 l0.length c0, .int .i64 a1] rfl mapz ?_; (with_reducible refine (dropperref01_depth.calls k _ _ l0 a1 t242 _ (cbz HR0) HC0.out A5.out).mono ?_); rintro e w' ⟨rfl, ⟨nd, rfl⟩⟩; refine ⟨_, rfl, ?_⟩))
  go_ret2
  exact ⟨ezz, bel⟩
 ·
  replace c4 := Bool.eq_false_iff.mpr c4
  subst c4
  rw [if_neg (show ¬ (false = true) by decide)] at H
  simp only [Option.some.injEq, Prod.mk.injEq] at H
  obtain ⟨rfl, rfl⟩ := H
  go_enter Tryd.func22, Tryd.ntmps22
  go_wp2_with (first | ((with_reducible refine gate_callee (f := 37) rfl ?_); refine goesL_ (some 7) rfl rfl Tryd.func37 (by kernel_rfl) rfl #[.slice A0 l0.length c0] rfl mapz ?_; (with_reducible refine (dropperref01_Valid.calls k _ _ l0 false _ ?side1 HC0.out A3.out).mono ?_); (case side1 => repeat (first | exact HR0.out | (with_reducible refine Kd.C_alloc ?_ _) | (with_reducible refine Kd.C_drewN ?_ _) | (with_reducible refine Kd.C_drew ?_))); rintro e w7 ⟨rfl, hb⟩; refine ⟨_, rfl, ?_⟩; replace HB := Aside0.mk (below_step bel hb); clear hb))
  go_ret2
  exact ⟨ezz, bel⟩

/-! ### dropperref01_Near: function 24 -/
mutual
def dropperref01_Near.j0 : Nat → List (S46) → Int → Bool → Option (Int × Int)
 | 0, _, _, _ => none
 | k + 1, x0, x1, x13 => if x13 = true then (some (0, 2)) else (if (x0.length : Int) = 0 then (some (0, 5)) else (if 0 < (x0.length : Int) then (dropperref01_Near.l0 k x0 x1 ((rd_T46 x0 0).f0) 0) else (none)))
def dropperref01_Near.l0 : Nat → List (S46) → Int → Int → Int → Option (Int × Int)
 | 0, _, _, _, _ => none
 | k + 1, x0, x1, x6, x7 => if x7 < (x0.length : Int) then (if 0 ≤ x7 then (if (mx (wrap64 ((mn (mx x1 ((rd_T46 x0 x7).f0)) (wrap64 (((rd_T46 x0 x7).f1) - 1))) - x1)) (wrap64 (x1 - (mn (mx x1 ((rd_T46 x0 x7).f0)) (wrap64 (((rd_T46 x0 x7).f1) - 1)))))) < (mx (wrap64 (x6 - x1)) (wrap64 (x1 - x6))) then (dropperref01_Near.l0 k x0 x1 (mn (mx x1 ((rd_T46 x0 x7).f0)) (wrap64 (((rd_T46 x0 x7).f1) - 1))) (wrap64 (x7 + 1))) else (dropperref01_Near.l0 k x0 x1 x6 (wrap64 (x7 + 1)))) else (none)) else (some (x6, 0))
end
def dropperref01_Near.f (k : Nat) (l0 : List (S46)) (a1 : Int) : Option (Int × Int) := (dropperref01_Valid.f k l0).bind fun t243 => (if t243 = true then (if a1 < 0 then (dropperref01_Near.j0 k l0 a1 true) else (dropperref01_Near.j0 k l0 a1 (decide (a1 ≥ 100000)))) else (some (0, 10)))
set_option maxHeartbeats 8000000 in
set_option maxRecDepth 100000 in
theorem dropperref01_Near.calls (k : Nat) (A0 : Option Addr) (c0 : Nat) (l0 : List (S46)) (a1 : Int) (r1 : Int) (r2 : Int) (w : World) (hr0 : Kd.C k46 w A0 l0.length l0) (hc0 : l0.length ≤ c0) (h : dropperref01_Near.f k l0 a1 = some (r1, r2)) :
  Calls Tryd.prog 24 #[.slice A0 l0.length c0, .int .i64 a1] w fun e w' => e = .returned (.tuple #[.int .i64 r1, .int .i64 r2]) ∧ Below w.heap.size w w' := by
 have HR0 := Aside0.mk hr0
 have HC0 := Aside0.mk hc0
 clear hr0 hc0
 have HB := Aside0.mk (Below.refl w.heap.size w)
 have H : ((dropperref01_Valid.f k l0).bind fun t243 => (if t243 = true then (if a1 < 0 then (dropperref01_Near.j0 k l0 a1 true) else (dropperref01_Near.j0 k l0 a1 (decide (a1 ≥ 100000)))) else (some (0, 10)))) = some (r1, r2) := h
 clear h
 replace H := Option.bind_eq_some_iff.mp H
 obtain ⟨t243, A30, H⟩ := H
 try dsimp only at H
 have A3 := Aside0.mk A30
 clear A30
 by_cases c4 : t243 = true
 ·
  subst c4
  rw [if_pos rfl] at H
  have HC5 := Aside0.mk H
  clear H
  go_enter Tryd.func24, Tryd.ntmps24
  go_upto_region 3 with (first | (go_at_call 37; (with_reducible refine (dropperref01_Valid.calls k _ _ l0 true _ ?side1 HC0.out A3.out).mono ?_); (case side1 => repeat (first | exact HR0.out | (with_reducible refine Kd.C_alloc ?_ _) | (with_reducible refine Kd.C_drewN ?_ _) | (with_reducible refine Kd.C_drew ?_))); rintro e w6 ⟨rfl, hb⟩; replace HB := Aside0.mk (below_step bel hb); clear hb))
  repeat (go_quiet (first | (go_at_call 37; (with_reducible refine (dropperref01_Valid.calls k _ _ l0 true _ ?side1 HC0.out A3.out).mono ?_); (case side1 => repeat (first | exact HR0.out | (with_reducible refine Kd.C_alloc ?_ _) | (with_reducible refine Kd.C_drewN ?_ _) | (with_reducible refine Kd.C_drew ?_))); rintro e w6 ⟨rfl, hb⟩; replace HB := Aside0.mk (below_step bel hb); clear hb)); go_upto_region 3 with (first | (go_at_call 37; (with_reducible refine (dropperref01_Valid.calls k _ _ l0 true _ ?side1 HC0.out A3.out).mono ?_); (case side1 => repeat (first | exact HR0.out | (with_reducible refine Kd.C_alloc ?_ _) | (with_reducible refine Kd.C_drewN ?_ _) | (with_reducible refine Kd.C_drew ?_))); rintro e w6 ⟨rfl, hb⟩; replace HB := Aside0.mk (below_step bel hb); clear hb)))
  (try simp only [Act.put, List.setIfInBounds_toArray, List.set_cons_zero, List.set_cons_succ])
  go_cut [13] (fun v13 wc => ∃ (kq : Nat) (x13_4 : Bool), v13 = .bool x13_4 ∧ Aside0 (dropperref01_Near.j0 kq l0 a1 x13_4 = some (r1, r2)) ∧ Aside0 (kq ≤ k) ∧ Aside0 (Below w.heap.size w wc))
  case first =>
   have H := HC5.out
   clear HC5
   by_cases c7 : a1 < 0
   ·
    rw [if_pos c7] at H
    have c7b0 : decide (a1 < 0) = true := decide_eq_true c7
    clear c7
    (first | rw [c7b0] | (simp only [i64_w, i32_w]; rw [c7b0]) | skip)
    have H' := Aside0.mk H
    clear H
    go_wp2
    repeat (go_quiet (fail); try go_wp2)
    go_meet
    case rel => exact ⟨_, (true), rsz, H', ⟨by first | omega | exact Nat.le_refl _⟩, ⟨bel⟩⟩
   ·
    rw [if_neg c7] at H
    have c7b0 : decide (a1 < 0) = false := decide_eq_false c7
    clear c7
    (first | rw [c7b0] | (simp only [i64_w, i32_w]; rw [c7b0]) | skip)
    have H' := Aside0.mk H
    clear H
    go_wp2
    repeat (go_quiet (fail); try go_wp2)
    go_meet
    case rel => exact ⟨_, (decide (a1 ≥ 100000)), rsz, H', ⟨by first | omega | exact Nat.le_refl _⟩, ⟨bel⟩⟩
  case rest =>
   clear HC5
   (try clear c2); (try clear p2); (try clear c4); (try clear c7); (try clear c7b0)
   obtain ⟨kq, x13_4, rfl, HA, HJ4, HB⟩ := hcut
   cases kq with
   | zero => exact absurd HA.out (by simp [dropperref01_Near.j0])
   | succ kj4 =>
    have H := HA.out
    clear HA
    simp only [dropperref01_Near.j0] at H
    by_cases c8 : x13_4 = true
    ·
     subst c8
     rw [if_pos rfl] at H
     simp only [Option.some.injEq, Prod.mk.injEq] at H
     obtain ⟨rfl, rfl⟩ := H
     go_wp2
     repeat (go_quiet (fail); try go_wp2)
     go_ret2
     exact ⟨ezz, bel⟩
    ·
     replace c8 := Bool.eq_false_iff.mpr c8
     subst c8
     rw [if_neg (show ¬ (false = true) by decide)] at H
     by_cases c9 : (l0.length : Int) = 0
     ·
      rw [if_pos c9] at H
      have c9b0 : ((l0.length : Int) == 0) = true := beq_iff_eq.mpr c9
      have c9b1 : ((l0.length : Int) != 0) = false := bne_eq_false_iff_eq.mpr c9
      clear c9
      simp only [Option.some.injEq, Prod.mk.injEq] at H
      obtain ⟨rfl, rfl⟩ := H
      go_wp2
      repeat (go_quiet (fail); try go_wp2)
      go_ret2
      exact ⟨ezz, bel⟩
     ·
      rw [if_neg c9] at H
      have c9b0 : ((l0.length : Int) == 0) = false := beq_eq_false_iff_ne.mpr c9
      have c9b1 : ((l0.length : Int) != 0) = true := bne_iff_ne.mpr c9
      have c9b2 : ¬ (l0 = []) := fun h_ => c9 (by rw [h_]; rfl)
      by_cases c10 : 0 < (l0.length : Int)
      ·
       rw [if_pos c10] at H
       have c10b0 : decide (0 < (l0.length : Int)) = true := decide_eq_true c10
       have c10b1 : decide (0 < l0.length) = true := decide_eq_true (by omega)
       clear c10
       have H' := Aside0.mk H
       clear H
       have p244 : 0 ≤ (0 : Int) := (by omega)
       have q244 : 0 < (l0.length : Int) := of_decide_eq_true asz
       obtain ⟨ad244, e244, hx244_0, hx244_1⟩ := at_T46 HR0.out 0 p244 q244
       cases e244
       have qi244 : (0 < l0.length) = True := eq_true (by omega)
       (try rw [show ((0 : Int)).toNat = 0 from rfl] at hx244_0)
       (try rw [show 0 * 2 = 0 from rfl] at hx244_0)
       (try rw [Addr.add_zero'] at hx244_0)
       (try rw [show ((0 : Int)).toNat = 0 from rfl] at hx244_1)
       (try rw [show 0 * 2 = 0 from rfl] at hx244_1)
       (try rw [Addr.add_zero'] at hx244_1)
       replace hx244_0 := (HB.out.cell (World.block_lt_of_cell? w _ hx244_0)).trans hx244_0
       replace hx244_1 := (HB.out.cell (World.block_lt_of_cell? w _ hx244_1)).trans hx244_1
       replace p244 := eq_true p244
       replace q244 := eq_true q244
       go_wp2
       repeat (go_quiet (fail); try go_wp2)
       go_loopg [6, 7] kj4 (fun kq v6 v7 w' => ∃ (x6_2 : Int) (x7_2 : Int), v6 = .int .i64 x6_2 ∧ v7 = .int .i64 x7_2 ∧ Aside0 (dropperref01_Near.l0 kq l0 a1 x6_2 x7_2 = some (r1, r2)) ∧ Aside0 (kq ≤ kj4) ∧ Aside0 (Below w.heap.size w w'))
       case atStart => exact ⟨((rd_T46 l0 0).f0), (0), rsz, rsz, H', ⟨Nat.le_refl _⟩, ⟨bel⟩⟩
       case round =>
        clear H'
        (try clear c1); (try clear c2); (try clear p2); (try clear q2); (try clear hx2); (try clear qi2); (try clear c4); (try clear c7); (try clear c7b0); (try clear c8); (try clear c9); (try clear c9b0); (try clear c9b1); (try clear c9b2); (try clear c10); (try clear c10b0); (try clear c10b1); (try clear hx244_0); (try clear hx244_1); (try clear p2); (try clear p244); (try clear q244)
        obtain ⟨x6_2, x7_2, rfl, rfl, HA, HK2, HB⟩ := hrel
        cases gk with
        | zero => exact absurd HA.out (by simp [dropperref01_Near.l0])
        | succ k2 =>
         have H := HA.out
         clear HA
         simp only [dropperref01_Near.l0] at H
         by_cases c11 : x7_2 < (l0.length : Int)
         ·
          rw [if_pos c11] at H
          have c11b0 : decide (x7_2 < (l0.length : Int)) = true := decide_eq_true c11
          clear c11
          by_cases c12 : 0 ≤ x7_2
          ·
           rw [if_pos c12] at H
           have c12b0 : decide (0 ≤ x7_2) = true := decide_eq_true c12
           clear c12
           obtain ⟨ji13, hji13⟩ : ∃ j_ : Int, (mx a1 ((rd_T46 l0 x7_2).f0)) = j_ := ⟨_, rfl⟩
           replace H : (if (mx (wrap64 ((mn (ji13) (wrap64 (((rd_T46 l0 x7_2).f1) - 1))) - a1)) (wrap64 (a1 - (mn (ji13) (wrap64 (((rd_T46 l0 x7_2).f1) - 1)))))) < (mx (wrap64 (x6_2 - a1)) (wrap64 (a1 - x6_2))) then (dropperref01_Near.l0 k2 l0 a1 (mn (ji13) (wrap64 (((rd_T46 l0 x7_2).f1) - 1))) (wrap64 (x7_2 + 1))) else (dropperref01_Near.l0 k2 l0 a1 x6_2 (wrap64 (x7_2 + 1)))) = some (r1, r2) := by first | (rw [hji13] at H; exact H) | (simp only [hji13] at H ⊢; exact H)
           have hji13_ : (if a1 < ((rd_T46 l0 x7_2).f0) then ((rd_T46 l0 x7_2).f0) else a1) = ji13 := hji13
           obtain ⟨ji14, hji14⟩ : ∃ j_ : Int, (mn (ji13) (wrap64 (((rd_T46 l0 x7_2).f1) - 1))) = j_ := ⟨_, rfl⟩
           replace H : (if (mx (wrap64 ((ji14) - a1)) (wrap64 (a1 - (ji14)))) < (mx (wrap64 (x6_2 - a1)) (wrap64 (a1 - x6_2))) then (dropperref01_Near.l0 k2 l0 a1 ji14 (wrap64 (x7_2 + 1))) else (dropperref01_Near.l0 k2 l0 a1 x6_2 (wrap64 (x7_2 + 1)))) = some (r1, r2) := by first | (rw [hji14] at H; exact H) | (simp only [hji14] at H ⊢; exact H)
           have hji14_ : (if (wrap64 (((rd_T46 l0 x7_2).f1) - 1)) < (ji13) then (wrap64 (((rd_T46 l0 x7_2).f1) - 1)) else (ji13)) = ji14 := hji14
           obtain ⟨ji15, hji15⟩ : ∃ j_ : Int, (mx (wrap64 ((ji14) - a1)) (wrap64 (a1 - (ji14)))) = j_ := ⟨_, rfl⟩
           replace H : (if (ji15) < (mx (wrap64 (x6_2 - a1)) (wrap64 (a1 - x6_2))) then (dropperref01_Near.l0 k2 l0 a1 ji14 (wrap64 (x7_2 + 1))) else (dropperref01_Near.l0 k2 l0 a1 x6_2 (wrap64 (x7_2 + 1)))) = some (r1, r2) := by first | (rw [hji15] at H; exact H) | (simp only [hji15] at H ⊢; exact H)
           have hji15_ : (if (wrap64 ((ji14) - a1)) < (wrap64 (a1 - (ji14))) then (wrap64 (a1 - (ji14))) else (wrap64 ((ji14) - a1))) = ji15 := hji15
           obtain ⟨ji16, hji16⟩ : ∃ j_ : Int, (mx (wrap64 (x6_2 - a1)) (wrap64 (a1 - x6_2))) = j_ := ⟨_, rfl⟩
           replace H : (if (ji15) < (ji16) then (dropperref01_Near.l0 k2 l0 a1 ji14 (wrap64 (x7_2 + 1))) else (dropperref01_Near.l0 k2 l0 a1 x6_2 (wrap64 (x7_2 + 1)))) = some (r1, r2) := by first | (rw [hji16] at H; exact H) | (simp only [hji16] at H ⊢; exact H)
           have hji16_ : (if (wrap64 (x6_2 - a1)) < (wrap64 (a1 - x6_2)) then (wrap64 (a1 - x6_2)) else (wrap64 (x6_2 - a1))) = ji16 := hji16
           by_cases c17 : (ji15) < (ji16)
           ·
            rw [if_pos c17] at H
            have c17b0 : decide ((ji15) < (ji16)) = true := decide_eq_true c17
            clear c17
            have H' := Aside0.mk H
            clear H
            have p245 : 0 ≤ (x7_2 : Int) := of_decide_eq_true asz
            have q245 : x7_2 < (l0.length : Int) := of_decide_eq_true asz
            obtain ⟨ad245, e245, hx245_0, hx245_1⟩ := at_T46 HR0.out x7_2 p245 q245
            obtain rfl : ad244 = ad245 := (by injection e245)
            replace hx245_0 := (HB.out.cell (World.block_lt_of_cell? w _ hx245_0)).trans hx245_0
            replace hx245_1 := (HB.out.cell (World.block_lt_of_cell? w _ hx245_1)).trans hx245_1
            replace p245 := eq_true p245
            replace q245 := eq_true q245
            have p246 : 0 ≤ (x7_2 : Int) := of_decide_eq_true asz
            have q246 : x7_2 < (l0.length : Int) := of_decide_eq_true asz
            obtain ⟨ad246, e246, hx246_0, hx246_1⟩ := at_T46 HR0.out x7_2 p246 q246
            obtain rfl : ad244 = ad246 := (by injection e246)
            replace hx246_0 := (HB.out.cell (World.block_lt_of_cell? w _ hx246_0)).trans hx246_0
            replace hx246_1 := (HB.out.cell (World.block_lt_of_cell? w _ hx246_1)).trans hx246_1
            replace p246 := eq_true p246
            replace q246 := eq_true q246
            go_wp2
            repeat (go_quiet (fail); try go_wp2)
            go_roundg k2
            case measure => have := HJ4.out; have := HK2.out; omega
            case rel => exact ⟨(ji14), (wrap64 (x7_2 + 1)), (by first | rfl | (simp; done) | (simp only [← hji14] <;> (first | rfl | simp)) | (simp [*]; done)), rsz, H', ⟨by have := HJ4.out; have := HK2.out; omega⟩, ⟨bel⟩⟩
           ·
            rw [if_neg c17] at H
            have c17b0 : decide ((ji15) < (ji16)) = false := decide_eq_false c17
            clear c17
            have H' := Aside0.mk H
            clear H
            have p245 : 0 ≤ (x7_2 : Int) := of_decide_eq_true asz
            have q245 : x7_2 < (l0.length : Int) := of_decide_eq_true asz
            obtain ⟨ad245, e245, hx245_0, hx245_1⟩ := at_T46 HR0.out x7_2 p245 q245
            obtain rfl : ad244 = ad245 := (by injection e245)
            replace hx245_0 := (HB.out.cell (World.block_lt_of_cell? w _ hx245_0)).trans hx245_0
            replace hx245_1 := (HB.out.cell (World.block_lt_of_cell? w _ hx245_1)).trans hx245_1
            replace p245 := eq_true p245
            replace q245 := eq_true q245
            have p246 : 0 ≤ (x7_2 : Int) := of_decide_eq_true asz
            have q246 : x7_2 < (l0.length : Int) := of_decide_eq_true asz
            obtain ⟨ad246, e246, hx246_0, hx246_1⟩ := at_T46 HR0.out x7_2 p246 q246
            obtain rfl : ad244 = ad246 := (by injection e246)
            replace hx246_0 := (HB.out.cell (World.block_lt_of_cell? w _ hx246_0)).trans hx246_0
            replace hx246_1 := (HB.out.cell (World.block_lt_of_cell? w _ hx246_1)).trans hx246_1
            replace p246 := eq_true p246
            replace q246 := eq_true q246
            go_wp2
            repeat (go_quiet (fail); try go_wp2)
            go_roundg k2
            case measure => have := HJ4.out; have := HK2.out; omega
            case rel => exact ⟨(x6_2), (wrap64 (x7_2 + 1)), rsz, rsz, H', ⟨by have := HJ4.out; have := HK2.out; omega⟩, ⟨bel⟩⟩
          ·
           rw [if_neg c12] at H
           exact absurd H (by simp)
         ·
          rw [if_neg c11] at H
          have c11b0 : decide (x7_2 < (l0.length : Int)) = false := decide_eq_false c11
          clear c11
          simp only [Option.some.injEq, Prod.mk.injEq] at H
          obtain ⟨rfl, rfl⟩ := H
          go_wp2
          repeat (go_quiet (fail); try go_wp2)
          go_ret2
          exact ⟨ezz, bel⟩
      ·
       rw [if_neg c10] at H
       exact absurd H (by simp)
 ·
  replace c4 := Bool.eq_false_iff.mpr c4
  subst c4
  rw [if_neg (show ¬ (false = true) by decide)] at H
  simp only [Option.some.injEq, Prod.mk.injEq] at H
  obtain ⟨rfl, rfl⟩ := H
  go_enter Tryd.func24, Tryd.ntmps24
  go_wp2_with (first | (go_at_call 37; (with_reducible refine (dropperref01_Valid.calls k _ _ l0 false _ ?side1 HC0.out A3.out).mono ?_); (case side1 => repeat (first | exact HR0.out | (with_reducible refine Kd.C_alloc ?_ _) | (with_reducible refine Kd.C_drewN ?_ _) | (with_reducible refine Kd.C_drew ?_))); rintro e w18 ⟨rfl, hb⟩; replace HB := Aside0.mk (below_step bel hb); clear hb))
  repeat (go_quiet (first | (go_at_call 37; (with_reducible refine (dropperref01_Valid.calls k _ _ l0 false _ ?side1 HC0.out A3.out).mono ?_); (case side1 => repeat (first | exact HR0.out | (with_reducible refine Kd.C_alloc ?_ _) | (with_reducible refine Kd.C_drewN ?_ _) | (with_reducible refine Kd.C_drew ?_))); rintro e w18 ⟨rfl, hb⟩; replace HB := Aside0.mk (below_step bel hb); clear hb)); try go_wp2_with (first | (go_at_call 37; (with_reducible refine (dropperref01_Valid.calls k _ _ l0 false _ ?side1 HC0.out A3.out).mono ?_); (case side1 => repeat (first | exact HR0.out | (with_reducible refine Kd.C_alloc ?_ _) | (with_reducible refine Kd.C_drewN ?_ _) | (with_reducible refine Kd.C_drew ?_))); rintro e w18 ⟨rfl, hb⟩; replace HB := Aside0.mk (below_step bel hb); clear hb)))
  go_ret2
  exact ⟨ezz, bel⟩

/-! ### mast_Length: function 19 -/
def mast_Length.f (k : Nat) (l0 : List (S46)) : Option (Int × Int) := (mast_Valid.f k l0).bind fun t229 => (if t229 = true then ((mast_length.f k l0).bind fun t230 => (some (t230, 0))) else (some (0, 10)))
set_option maxHeartbeats 8000000 in
set_option maxRecDepth 100000 in
theorem mast_Length.calls (k : Nat) (A0 : Option Addr) (c0 : Nat) (l0 : List (S46)) (r1 : Int) (r2 : Int) (w : World) (hr0 : Kd.C k46 w A0 l0.length l0) (hc0 : l0.length ≤ c0) (h : mast_Length.f k l0 = some (r1, r2)) :
  Calls Tryd.prog 19 #[.slice A0 l0.length c0] w fun e w' => e = .returned (.tuple #[.int .i64 r1, .int .i64 r2]) ∧ Below w.heap.size w w' := by
 have HR0 := Aside0.mk hr0
 have HC0 := Aside0.mk hc0
 clear hr0 hc0
 have HB := Aside0.mk (Below.refl w.heap.size w)
 have H : ((mast_Valid.f k l0).bind fun t229 => (if t229 = true then ((mast_length.f k l0).bind fun t230 => (some (t230, 0))) else (some (0, 10)))) = some (r1, r2) := h
 clear h
 replace H := Option.bind_eq_some_iff.mp H
 obtain ⟨t229, A20, H⟩ := H
 try dsimp only at H
 have A2 := Aside0.mk A20
 clear A20
 by_cases c3 : t229 = true
 ·
  subst c3
  rw [if_pos rfl] at H
  replace H := Option.bind_eq_some_iff.mp H
  obtain ⟨t230, A40, H⟩ := H
  try dsimp only at H
  have A4 := Aside0.mk A40
  clear A40
  simp only [Option.some.injEq, Prod.mk.injEq] at H
  obtain ⟨rfl, rfl⟩ := H
  go_enter Tryd.func19, Tryd.ntmps19
  go_wp2_with (first | ((with_reducible refine gate_callee (f := 50) rfl ?_); refine goesL_ (some 5) rfl rfl Tryd.func50 (by kernel_rfl) rfl #[.slice A0 l0.length c0] rfl mapz ?_; (with_reducible refine (mast_Valid.calls k _ _ l0 true _ ?side1 HC0.out A2.out).mono ?_); (case side1 => repeat (first | exact HR0.out | (with_reducible refine Kd.C_alloc ?_ _) | (with_reducible refine Kd.C_drewN ?_ _) | (with_reducible refine Kd.C_drew ?_))); rintro e w5 ⟨rfl, hb⟩; refine ⟨_, rfl, ?_⟩; replace HB := Aside0.mk (below_step bel hb); clear hb) | ((with_reducible refine gate_callee (f := 51) rfl ?_); refine goesL_ (some 8) rfl rfl Tryd.func51 (by kernel_rfl) rfl #[.slice A0 l0.length c0] rfl mapz ?_; (with_reducible refine (mast_length.calls k _ _ l0 t230 _ (cbz HR0) HC0.out A4.out).mono ?_); rintro e w6 ⟨rfl, hb⟩; refine ⟨_, rfl, ?_⟩; replace HB := Aside0.mk (below_step bel hb); clear hb))
  go_ret2
  exact ⟨ezz, bel⟩
 ·
  replace c3 := Bool.eq_false_iff.mpr c3
  subst c3
  rw [if_neg (show ¬ (false = true) by decide)] at H
  simp only [Option.some.injEq, Prod.mk.injEq] at H
  obtain ⟨rfl, rfl⟩ := H
  go_enter Tryd.func19, Tryd.ntmps19
  go_wp2_with (first | ((with_reducible refine gate_callee (f := 50) rfl ?_); refine goesL_ (some 5) rfl rfl Tryd.func50 (by kernel_rfl) rfl #[.slice A0 l0.length c0] rfl mapz ?_; (with_reducible refine (mast_Valid.calls k _ _ l0 false _ ?side1 HC0.out A2.out).mono ?_); (case side1 => repeat (first | exact HR0.out | (with_reducible refine Kd.C_alloc ?_ _) | (with_reducible refine Kd.C_drewN ?_ _) | (with_reducible refine Kd.C_drew ?_))); rintro e w7 ⟨rfl, hb⟩; refine ⟨_, rfl, ?_⟩; replace HB := Aside0.mk (below_step bel hb); clear hb))
  go_ret2
  exact ⟨ezz, bel⟩

/-! ### dropperref01_Length: function 20 -/
def dropperref01_Length.f (k : Nat) (l0 : List (S46)) : Option (Int × Int) := (dropperref01_Valid.f k l0).bind fun t237 => (if t237 = true then ((dropperref01_Sum.f k l0).bind fun t238 => (some (t238, 0))) else (some (0, 10)))
set_option maxHeartbeats 8000000 in
set_option maxRecDepth 100000 in
theorem dropperref01_Length.calls (k : Nat) (A0 : Option Addr) (c0 : Nat) (l0 : List (S46)) (r1 : Int) (r2 : Int) (w : World) (hr0 : Kd.C k46 w A0 l0.length l0) (hc0 : l0.length ≤ c0) (h : dropperref01_Length.f k l0 = some (r1, r2)) :
  Calls Tryd.prog 20 #[.slice A0 l0.length c0] w fun e w' => e = .returned (.tuple #[.int .i64 r1, .int .i64 r2]) ∧ Below w.heap.size w w' := by
 have HR0 := Aside0.mk hr0
 have HC0 := Aside0.mk hc0
 clear hr0 hc0
 have HB := Aside0.mk (Below.refl w.heap.size w)
 have H : ((dropperref01_Valid.f k l0).bind fun t237 => (if t237 = true then ((dropperref01_Sum.f k l0).bind fun t238 => (some (t238, 0))) else (some (0, 10)))) = some (r1, r2) := h
 clear h
 replace H := Option.bind_eq_some_iff.mp H
 obtain ⟨t237, A20, H⟩ := H
 try dsimp only at H
 have A2 := Aside0.mk A20
 clear A20
 by_cases c3 : t237 = true
 ·
  subst c3
  rw [if_pos rfl] at H
  replace H := Option.bind_eq_some_iff.mp H
  obtain ⟨t238, A40, H⟩ := H
  try dsimp only at H
  have A4 := Aside0.mk A40
  clear A40
  simp only [Option.some.injEq, Prod.mk.injEq] at H
  obtain ⟨rfl, rfl⟩ := H
  go_enter Tryd.func20, Tryd.ntmps20
  go_wp2_with (first | ((with_reducible refine gate_callee (f := 37) rfl ?_); refine goesL_ (some 5) rfl rfl Tryd.func37 (by kernel_rfl) rfl #[.slice A0 l0.length c0] rfl mapz ?_; (with_reducible refine (dropperref01_Valid.calls k _ _ l0 true _ ?side1 HC0.out A2.out).mono ?_); (case side1 => repeat (first | exact HR0.out | (with_reducible refine Kd.C_alloc ?_ _) | (with_reducible refine Kd.C_drewN ?_ _) | (with_reducible refine Kd.C_drew ?_))); rintro e w5 ⟨rfl, hb⟩; refine ⟨_, rfl, ?_⟩; replace HB := Aside0.mk (below_step bel hb); clear hb) | ((with_reducible refine gate_callee (f := 38) rfl ?_); refine goesL_ (some 8) rfl rfl Tryd.func38 (by kernel_rfl) rfl #[.slice A0 l0.length c0] rfl mapz ?_; (with_reducible refine (dropperref01_Sum.calls k _ _ l0 t238 _ (cbz HR0) HC0.out A4.out).mono ?_); rintro e w' ⟨rfl, ⟨nd, rfl⟩⟩; refine ⟨_, rfl, ?_⟩))
  go_ret2
  exact ⟨ezz, bel⟩
 ·
  replace c3 := Bool.eq_false_iff.mpr c3
  subst c3
  rw [if_neg (show ¬ (false = true) by decide)] at H
  simp only [Option.some.injEq, Prod.mk.injEq] at H
  obtain ⟨rfl, rfl⟩ := H
  go_enter Tryd.func20, Tryd.ntmps20
  go_wp2_with (first | ((with_reducible refine gate_callee (f := 37) rfl ?_); refine goesL_ (some 5) rfl rfl Tryd.func37 (by kernel_rfl) rfl #[.slice A0 l0.length c0] rfl mapz ?_; (with_reducible refine (dropperref01_Valid.calls k _ _ l0 false _ ?side1 HC0.out A2.out).mono ?_); (case side1 => repeat (first | exact HR0.out | (with_reducible refine Kd.C_alloc ?_ _) | (with_reducible refine Kd.C_drewN ?_ _) | (with_reducible refine Kd.C_drew ?_))); rintro e w6 ⟨rfl, hb⟩; refine ⟨_, rfl, ?_⟩; replace HB := Aside0.mk (below_step bel hb); clear hb))
  go_ret2
  exact ⟨ezz, bel⟩

/-! ### mast_Moved: function 27 -/
def mast_Moved.l0 : Nat → Int → List (S46) → List (S46) → Int → Int → Option ((List (S46)) × Int)
 | 0, _, _, _, _, _ => none
 | k + 1, x1, x6, x12, x13, x14 => if x14 < x13 then (if 0 ≤ x14 then (if x14 < (x12.length : Int) then (if x1 < (wrap64 (-((rd_T46 x12 x14).f0))) then (some (([] : List (S46)), 2)) else (if x1 > (wrap64 (100000 - ((rd_T46 x12 x14).f1))) then (some (([] : List (S46)), 2)) else (if x6.length < 8796093022208 then (mast_Moved.l0 k x1 (x6 ++ [(⟨wrap64 (((rd_T46 x12 x14).f0) + x1), wrap64 (((rd_T46 x12 x14).f1) + x1)⟩ : S46)]) x12 x13 (wrap64 (x14 + 1))) else (none)))) else (none)) else (none)) else (some (x6, 0))
def mast_Moved.f (k : Nat) (l0 : List (S46)) (a1 : Int) : Option ((List (S46)) × Int) := (mast_Valid.f k l0).bind fun t324 => (if t324 = true then (mast_Moved.l0 k a1 ([] : List (S46)) l0 (l0.length : Int) 0) else (some (([] : List (S46)), 10)))
set_option maxHeartbeats 8000000 in
set_option maxRecDepth 100000 in
theorem mast_Moved.calls (k : Nat) (A0 : Option Addr) (c0 : Nat) (l0 : List (S46)) (a1 : Int) (r1 : List (S46)) (r2 : Int) (w : World) (hr0 : Kd.C k46 w A0 l0.length l0) (hc0 : l0.length ≤ c0) (h : mast_Moved.f k l0 a1 = some (r1, r2)) :
  Calls Tryd.prog 27 #[.slice A0 l0.length c0, .int .i64 a1] w fun e w' => ∃ v0_ : Value, e = .returned (.tuple #[v0_, .int .i64 r2]) ∧ Kd.R k46 46 w' w.heap.size (fun _ => True) v0_ r1 ∧ Below w.heap.size w w' := by
 have hu46 := Tryd.underlying46
 have HR0 := Aside0.mk hr0
 have HC0 := Aside0.mk hc0
 clear hr0 hc0
 have HB := Aside0.mk (Below.refl w.heap.size w)
 have H : ((mast_Valid.f k l0).bind fun t324 => (if t324 = true then (mast_Moved.l0 k a1 ([] : List (S46)) l0 (l0.length : Int) 0) else (some (([] : List (S46)), 10)))) = some (r1, r2) := h
 clear h
 replace H := Option.bind_eq_some_iff.mp H
 obtain ⟨t324, A30, H⟩ := H
 try dsimp only at H
 have A3 := Aside0.mk A30
 clear A30
 by_cases c4 : t324 = true
 ·
  subst c4
  rw [if_pos rfl] at H
  have H' := Aside0.mk H
  clear H
  go_enter Tryd.func27, Tryd.ntmps27
  go_wp2_with (first | ((with_reducible refine gate_callee (f := 50) rfl ?_); refine goesL_ (some 10) rfl rfl Tryd.func50 (by kernel_rfl) rfl #[.slice A0 l0.length c0] rfl mapz ?_; (with_reducible refine (mast_Valid.calls k _ _ l0 true _ ?side1 HC0.out A3.out).mono ?_); (case side1 => repeat (first | exact HR0.out | (with_reducible refine Kd.C_alloc ?_ _) | (with_reducible refine Kd.C_drewN ?_ _) | (with_reducible refine Kd.C_drew ?_))); rintro e w5 ⟨rfl, hb⟩; refine ⟨_, rfl, ?_⟩; replace HB := Aside0.mk (below_step bel hb); clear hb))
  go_loopg [6, 14] k (fun kq v6 v14 w' => ∃ (x6_1 : List (S46)) (x14_1 : Int), v14 = .int .i64 x14_1 ∧ Aside0 (mast_Moved.l0 kq a1 x6_1 l0 (l0.length : Int) x14_1 = some (r1, r2)) ∧ Aside0 (kq ≤ k) ∧ Aside0 (Kd.R k46 46 w' w.heap.size (fun _ => True) v6 x6_1) ∧ Aside0 (Below w.heap.size w w'))
  case atStart => exact ⟨(([] : List (S46))), (0), rsz, H', ⟨Nat.le_refl _⟩, ⟨by first | exact Kd.R_nil _ _ _ _ _ | exact Kd.N_nil _ _ _ _ _ | exact Kd.V_nil _ _ _ _ _ | exact Kd.Q_nil _ _ _ _ _ | exact Kd.S_nil _ _ _ _ _⟩, ⟨bel⟩⟩
  case round =>
   clear H'
   (try clear c2); (try clear p2); (try clear c4); (try clear c5)
   obtain ⟨x6_1, x14_1, rfl, HA, HK1, HO_6, HB⟩ := hrel
   cases gk with
   | zero => exact absurd HA.out (by simp [mast_Moved.l0])
   | succ k1 =>
    have H := HA.out
    clear HA
    simp only [mast_Moved.l0] at H
    by_cases c6 : x14_1 < (l0.length : Int)
    ·
     rw [if_pos c6] at H
     have c6b0 : decide (x14_1 < (l0.length : Int)) = true := decide_eq_true c6
     clear c6
     by_cases c7 : 0 ≤ x14_1
     ·
      rw [if_pos c7] at H
      have c7b0 : decide (0 ≤ x14_1) = true := decide_eq_true c7
      clear c7
      by_cases c8 : x14_1 < (l0.length : Int)
      ·
       rw [if_pos c8] at H
       have c8b0 : decide (x14_1 < (l0.length : Int)) = true := decide_eq_true c8
       clear c8
       by_cases c9 : a1 < (wrap64 (-((rd_T46 l0 x14_1).f0)))
       ·
        rw [if_pos c9] at H
        have c9b0 : decide (a1 < (wrap64 (-((rd_T46 l0 x14_1).f0)))) = true := decide_eq_true c9
        clear c9
        simp only [Option.some.injEq, Prod.mk.injEq] at H
        obtain ⟨rfl, rfl⟩ := H
        have p325 : 0 ≤ (x14_1 : Int) := of_decide_eq_true asz
        have q325 : x14_1 < (l0.length : Int) := of_decide_eq_true asz
        obtain ⟨ad325, e325, hx325_0, hx325_1⟩ := at_T46 HR0.out x14_1 p325 q325
        cases e325
        replace hx325_0 := (HB.out.cell (World.block_lt_of_cell? w _ hx325_0)).trans hx325_0
        replace hx325_1 := (HB.out.cell (World.block_lt_of_cell? w _ hx325_1)).trans hx325_1
        replace p325 := eq_true p325
        replace q325 := eq_true q325
        go_wp2_with (first | ((with_reducible refine gate_dst (N := 8) rfl ?_); refine box_event ?hg (N := 8) ?hd (cs := #[.int .i64 0, .int .i64 0]) (t := 46) ?hr ?_; (case hd => rfl); (case hg => rfl); (case hr => first | (go_simp; done) | (go_simp; rfl)); intro gb326 hg w10 hbox hb; have BK326 := Aside0.mk (hbox); have GW326 := bsz (w := w) hg; have GE326 := GW326; replace HO_6 := Aside0.mk (Kd.R_below (Kd.R_elderB (ownx HO_6) gb326 (Nat.le_of_eq hg.symm)) hb); replace HB := Aside0.mk (below_step bel hb); clear hb hbox hg; obtain ⟨hcz11_0, hcz11_1⟩ := bc2 BK326.out; obtain ⟨hfz11_0, hfz11_1⟩ := bf2 BK326.out))
        go_ret2
        exact ⟨_, ezz, by first | exact Kd.R_nil _ _ _ _ _ | exact Kd.N_nil _ _ _ _ _ | exact Kd.V_nil _ _ _ _ _ | exact Kd.Q_nil _ _ _ _ _ | exact Kd.S_nil _ _ _ _ _, bel⟩
       ·
        rw [if_neg c9] at H
        have c9b0 : decide (a1 < (wrap64 (-((rd_T46 l0 x14_1).f0)))) = false := decide_eq_false c9
        clear c9
        by_cases c12 : a1 > (wrap64 (100000 - ((rd_T46 l0 x14_1).f1)))
        ·
         rw [if_pos c12] at H
         have c12b0 : decide ((wrap64 (100000 - ((rd_T46 l0 x14_1).f1))) < a1) = true := decide_eq_true c12
         clear c12
         simp only [Option.some.injEq, Prod.mk.injEq] at H
         obtain ⟨rfl, rfl⟩ := H
         have p325 : 0 ≤ (x14_1 : Int) := of_decide_eq_true asz
         have q325 : x14_1 < (l0.length : Int) := of_decide_eq_true asz
         obtain ⟨ad325, e325, hx325_0, hx325_1⟩ := at_T46 HR0.out x14_1 p325 q325
         cases e325
         replace hx325_0 := (HB.out.cell (World.block_lt_of_cell? w _ hx325_0)).trans hx325_0
         replace hx325_1 := (HB.out.cell (World.block_lt_of_cell? w _ hx325_1)).trans hx325_1
         replace p325 := eq_true p325
         replace q325 := eq_true q325
         go_wp2_with (first | ((with_reducible refine gate_dst (N := 8) rfl ?_); refine box_event ?hg (N := 8) ?hd (cs := #[.int .i64 0, .int .i64 0]) (t := 46) ?hr ?_; (case hd => rfl); (case hg => rfl); (case hr => first | (go_simp; done) | (go_simp; rfl)); intro gb326 hg w13 hbox hb; have BK326 := Aside0.mk (hbox); have GW326 := bsz (w := w) hg; have GE326 := GW326; replace HO_6 := Aside0.mk (Kd.R_below (Kd.R_elderB (ownx HO_6) gb326 (Nat.le_of_eq hg.symm)) hb); replace HB := Aside0.mk (below_step bel hb); clear hb hbox hg; obtain ⟨hcz14_0, hcz14_1⟩ := bc2 BK326.out; obtain ⟨hfz14_0, hfz14_1⟩ := bf2 BK326.out))
         go_ret2
         exact ⟨_, ezz, by first | exact Kd.R_nil _ _ _ _ _ | exact Kd.N_nil _ _ _ _ _ | exact Kd.V_nil _ _ _ _ _ | exact Kd.Q_nil _ _ _ _ _ | exact Kd.S_nil _ _ _ _ _, bel⟩
        ·
         rw [if_neg c12] at H
         have c12b0 : decide ((wrap64 (100000 - ((rd_T46 l0 x14_1).f1))) < a1) = false := decide_eq_false c12
         clear c12
         by_cases c15 : x6_1.length < 8796093022208
         ·
          rw [if_pos c15] at H
          have LMc15 := Aside0.mk c15
          clear c15
          obtain ⟨y327, hy327⟩ : ∃ y_ : List (S46), y_ = (x6_1 ++ [(⟨wrap64 (((rd_T46 l0 x14_1).f0) + a1), wrap64 (((rd_T46 l0 x14_1).f1) + a1)⟩ : S46)]) := ⟨_, rfl⟩
          replace H : (mast_Moved.l0 k1 a1 y327 l0 (l0.length : Int) (wrap64 (x14_1 + 1))) = some (r1, r2) := by first | (rw [hy327]; with_reducible exact H) | (have H2_ := (Option.bind_some _ _).symm.trans H; rw [hy327]; with_reducible exact H2_) | (have H2_ := (Option.bind_some _ _).symm.trans H; with_reducible exact H2_) | with_reducible exact H | (rw [hy327]; exact H) | exact H
          have Ny327 := Aside0.mk hy327
          clear hy327
          have H' := Aside0.mk H
          clear H
          have p325 : 0 ≤ (x14_1 : Int) := of_decide_eq_true asz
          have q325 : x14_1 < (l0.length : Int) := of_decide_eq_true asz
          obtain ⟨ad325, e325, hx325_0, hx325_1⟩ := at_T46 HR0.out x14_1 p325 q325
          cases e325
          replace hx325_0 := (HB.out.cell (World.block_lt_of_cell? w _ hx325_0)).trans hx325_0
          replace hx325_1 := (HB.out.cell (World.block_lt_of_cell? w _ hx325_1)).trans hx325_1
          replace p325 := eq_true p325
          replace q325 := eq_true q325
          go_wp2_with (first | ((with_reducible refine gate_dst (N := 8) rfl ?_); refine box_event ?hg (N := 8) ?hd (cs := #[.int .i64 0, .int .i64 0]) (t := 46) ?hr ?_; (case hd => rfl); (case hg => rfl); (case hr => first | (go_simp; done) | (go_simp; rfl)); intro gb326 hg w16 hbox hb; have BK326 := Aside0.mk (hbox); have GW326 := bsz (w := w) hg; have GE326 := GW326; replace HO_6 := Aside0.mk (Kd.R_below (Kd.R_elderB (ownx HO_6) gb326 (Nat.le_of_eq hg.symm)) hb); replace HB := Aside0.mk (below_step bel hb); clear hb hbox hg; obtain ⟨hcz17_0, hcz17_1⟩ := bc2 BK326.out; obtain ⟨hfz17_0, hfz17_1⟩ := bf2 BK326.out) | ((with_reducible refine gate_builtin (b := .append) (xs := #[.tmp 30, .tmp 40]) rfl ?_); at_builtin; refine Kd.R_append k46 (w0 := w) w.heap.size rfl (.tmp 30) (.tmp 40) 22 46 (.agg #[(.int .i64 0), (.int .i64 0)]) 16 rfl Tryd.underlying22 info46 rfl (by decide) (by omega) u6 x6_1 (⟨wrap64 (((rd_T46 l0 x14_1).f0) + a1), wrap64 (((rd_T46 l0 x14_1).f1) + a1)⟩ : S46) [.int .i64 (wrap64 (((rd_T46 l0 x14_1).f0) + a1)), .int .i64 (wrap64 (((rd_T46 l0 x14_1).f1) + a1))] (fun k_ => k_ ≠ gb326) (fun _ => False) rfl (by first | (go_simp; done) | (go_simp; rfl)) ?aP (fun _ hk => hk.elim) ?aF ?aO ?aB ?aS ?aL ?_; (case aP => exact k46_mkM _ _ _ (⟨wrap64 (((rd_T46 l0 x14_1).f0) + a1), wrap64 (((rd_T46 l0 x14_1).f1) + a1)⟩ : S46)); (case aB => exact bel); (case aF => exact (fun k_ hk => Kd.freshB (g := gb326) (o := .cells #[.int .i64 ((rd_T46 l0 x14_1).f0), .int .i64 ((rd_T46 l0 x14_1).f1)] 46 (0, 0)) (by (with_reducible repeat (first | refine blk_drewN ?_ _ | refine blk_drew ?_ | refine blk_alloc ?_ _)); refine blk_put (cs := #[.int .i64 ((rd_T46 l0 x14_1).f0), .int .i64 0]) ?_ 1 _ rfl; (with_reducible repeat (first | refine blk_drewN ?_ _ | refine blk_drew ?_ | refine blk_alloc ?_ _)); refine blk_put (cs := #[.int .i64 0, .int .i64 0]) ?_ 0 _ rfl; (with_reducible repeat (first | refine blk_drewN ?_ _ | refine blk_drew ?_ | refine blk_alloc ?_ _)); exact BK326.out) k_ hk)); (case aO => exact (by (with_reducible repeat (first | apply Kd.R_alloc | apply Kd.R_drewN | apply Kd.R_drew)); exact Kd.R_mono (Kd.R_far (p := ⟨gb326, 1, none⟩) (Kd.R_far (p := ⟨gb326, 0, none⟩) (Kd.R_mono HO_6.out (fun k_ hk => (⟨hk, hk.2⟩ : _ ∧ k_ ≠ gb326))) (fun _ hk => hk.2) (.int .i64 ((rd_T46 l0 x14_1).f0))) (fun _ hk => hk.2) (.int .i64 ((rd_T46 l0 x14_1).f1))) (fun _ hk => hk.1.2))); (case aS => exact (below_size bel)); (case aL => have := LMc15.out; omega); intro v328 w18 ho hb hg hat; rw [← Ny327.out] at ho; have n0_ := Aside0.mk (blk_grown (g := gb326) (o := .cells #[.int .i64 ((rd_T46 l0 x14_1).f0), .int .i64 ((rd_T46 l0 x14_1).f1)] 46 (0, 0)) (by (with_reducible repeat (first | refine blk_drewN ?_ _ | refine blk_drew ?_ | refine blk_alloc ?_ _)); refine blk_put (cs := #[.int .i64 ((rd_T46 l0 x14_1).f0), .int .i64 0]) ?_ 1 _ rfl; (with_reducible repeat (first | refine blk_drewN ?_ _ | refine blk_drew ?_ | refine blk_alloc ?_ _)); refine blk_put (cs := #[.int .i64 0, .int .i64 0]) ?_ 0 _ rfl; (with_reducible repeat (first | refine blk_drewN ?_ _ | refine blk_drew ?_ | refine blk_alloc ?_ _)); exact BK326.out) hg (Kd.R_away HO_6.out (fun _ hk => hk.2))); have n1_ := Aside0.mk (hb); have n2_ := Aside0.mk (ho); clear BK326; clear HB; clear HO_6; have BK326 := n0_; have HB := n1_; have HO329 := n2_; clear n0_ n1_ n2_; clear ho hb hg hat))
          go_roundg k1
          case measure => have := HK1.out; omega
          case rel => exact ⟨(y327), (wrap64 (x14_1 + 1)), rsz, H', ⟨by have := HK1.out; omega⟩, ⟨by (with_reducible repeat (first | apply Kd.R_alloc | apply Kd.R_drewN | apply Kd.R_drew)); exact Kd.R_mono HO329.out (fun _ hk => trivial)⟩, ⟨bel⟩⟩
         ·
          rw [if_neg c15] at H
          exact absurd H (by simp)
      ·
       rw [if_neg c8] at H
       exact absurd H (by simp)
     ·
      rw [if_neg c7] at H
      exact absurd H (by simp)
    ·
     rw [if_neg c6] at H
     have c6b0 : decide (x14_1 < (l0.length : Int)) = false := decide_eq_false c6
     clear c6
     simp only [Option.some.injEq, Prod.mk.injEq] at H
     obtain ⟨rfl, rfl⟩ := H
     go_wp2
     go_ret2
     exact ⟨_, ezz, by (with_reducible repeat (first | apply Kd.R_alloc | apply Kd.R_drewN | apply Kd.R_drew)); exact HO_6.out, bel⟩
 ·
  replace c4 := Bool.eq_false_iff.mpr c4
  subst c4
  rw [if_neg (show ¬ (false = true) by decide)] at H
  simp only [Option.some.injEq, Prod.mk.injEq] at H
  obtain ⟨rfl, rfl⟩ := H
  go_enter Tryd.func27, Tryd.ntmps27
  go_wp2_with (first | ((with_reducible refine gate_callee (f := 50) rfl ?_); refine goesL_ (some 10) rfl rfl Tryd.func50 (by kernel_rfl) rfl #[.slice A0 l0.length c0] rfl mapz ?_; (with_reducible refine (mast_Valid.calls k _ _ l0 false _ ?side1 HC0.out A3.out).mono ?_); (case side1 => repeat (first | exact HR0.out | (with_reducible refine Kd.C_alloc ?_ _) | (with_reducible refine Kd.C_drewN ?_ _) | (with_reducible refine Kd.C_drew ?_))); rintro e w19 ⟨rfl, hb⟩; refine ⟨_, rfl, ?_⟩; replace HB := Aside0.mk (below_step bel hb); clear hb))
  go_ret2
  exact ⟨_, ezz, by first | exact Kd.R_nil _ _ _ _ _ | exact Kd.N_nil _ _ _ _ _ | exact Kd.V_nil _ _ _ _ _ | exact Kd.Q_nil _ _ _ _ _ | exact Kd.S_nil _ _ _ _ _, bel⟩

/-! ### dropperref01_Moved: function 28 -/
def dropperref01_Moved.l0 : Nat → List (S46) → Int → List (S46) → Int → Option ((List (S46)) × Int)
 | 0, _, _, _, _ => none
 | k + 1, x0, x1, x6, x7 => if x7 < (x0.length : Int) then (if x1 < (-100000) then (some (([] : List (S46)), 2)) else (if x1 > 100000 then (some (([] : List (S46)), 2)) else (if 0 ≤ x7 then ((dropperref01_isAt.f (wrap64 (((rd_T46 x0 x7).f0) + x1))).bind fun t332 => (if t332 = true then ((dropperref01_isAt.f (wrap64 (((rd_T46 x0 x7).f1) + x1))).bind fun t334 => (if t334 = true then (if x6.length < 8796093022208 then (dropperref01_Moved.l0 k x0 x1 (x6 ++ [(⟨wrap64 (((rd_T46 x0 x7).f0) + x1), wrap64 (((rd_T46 x0 x7).f1) + x1)⟩ : S46)]) (wrap64 (x7 + 1))) else (none)) else (some (([] : List (S46)), 2)))) else (some (([] : List (S46)), 2)))) else (none)))) else (some (x6, 0))
def dropperref01_Moved.f (k : Nat) (l0 : List (S46)) (a1 : Int) : Option ((List (S46)) × Int) := (dropperref01_Valid.f k l0).bind fun t330 => (if t330 = true then (dropperref01_Moved.l0 k l0 a1 ([] : List (S46)) 0) else (some (([] : List (S46)), 10)))
def dropperref01_Moved.T9 : Bool × List (List Nat × List Nat) := (true, [([], []), ([], []), ([], []), ([1, 2], [1, 2]), ([3], [3]), ([4], [4]), ([], []), ([5, 6], [5, 6]), ([], []), ([], []), ([8, 9], [8, 9]), ([10], [10]), ([11], [11]), ([], []), ([12, 13], [12, 13]), ([7, 14], [7, 14]), ([15], [15]), ([0, 16], [0, 16]), ([17, 17, 0, 1, 2, 3, 4, 5, 6, 7, 8, 9, 10, 11, 12, 13, 14, 15, 16, 17], [0, 17])])
def dropperref01_Moved.B9 : List Nat := [0, 0, 0, 6, 14, 30, 0, 126, 0, 0, 768, 1792, 3840, 0, 16128, 32766, 65534, 131071, 262143]
theorem dropperref01_Moved.tab9 : rtab .any (opsOf Tryd.f28 9) = dropperref01_Moved.T9 := by kernel_rfl
theorem dropperref01_Moved.bits9 : waitsOk dropperref01_Moved.T9.2 dropperref01_Moved.B9 = true := by kernel_rfl
set_option maxHeartbeats 8000000 in
set_option maxRecDepth 100000 in
theorem dropperref01_Moved.calls (k : Nat) (A0 : Option Addr) (c0 : Nat) (l0 : List (S46)) (a1 : Int) (r1 : List (S46)) (r2 : Int) (w : World) (hr0 : Kd.C k46 w A0 l0.length l0) (hc0 : l0.length ≤ c0) (h : dropperref01_Moved.f k l0 a1 = some (r1, r2)) :
  Calls Tryd.prog 28 #[.slice A0 l0.length c0, .int .i64 a1] w fun e w' => ∃ v0_ : Value, e = .returned (.tuple #[v0_, .int .i64 r2]) ∧ Kd.R k46 46 w' w.heap.size (fun _ => True) v0_ r1 ∧ Below w.heap.size w w' := by
 have hu46 := Tryd.underlying46
 have HR0 := Aside0.mk hr0
 have HC0 := Aside0.mk hc0
 clear hr0 hc0
 have HB := Aside0.mk (Below.refl w.heap.size w)
 have H : ((dropperref01_Valid.f k l0).bind fun t330 => (if t330 = true then (dropperref01_Moved.l0 k l0 a1 ([] : List (S46)) 0) else (some (([] : List (S46)), 10)))) = some (r1, r2) := h
 clear h
 replace H := Option.bind_eq_some_iff.mp H
 obtain ⟨t330, A30, H⟩ := H
 try dsimp only at H
 have A3 := Aside0.mk A30
 clear A30
 by_cases c4 : t330 = true
 ·
  subst c4
  rw [if_pos rfl] at H
  have H' := Aside0.mk H
  clear H
  go_enter Tryd.func28, Tryd.ntmps28
  go_wp2_with (first | ((with_reducible refine gate_callee (f := 37) rfl ?_); refine goesL_ (some 9) rfl rfl Tryd.func37 (by kernel_rfl) rfl #[.slice A0 l0.length c0] rfl mapz ?_; (with_reducible refine (dropperref01_Valid.calls k _ _ l0 true _ ?side1 HC0.out A3.out).mono ?_); (case side1 => repeat (first | exact HR0.out | (with_reducible refine Kd.C_alloc ?_ _) | (with_reducible refine Kd.C_drewN ?_ _) | (with_reducible refine Kd.C_drew ?_))); rintro e w5 ⟨rfl, hb⟩; refine ⟨_, rfl, ?_⟩; replace HB := Aside0.mk (below_step bel hb); clear hb))
  go_loopg [6, 7] k (fun kq v6 v7 w' => ∃ (x6_1 : List (S46)) (x7_1 : Int), v7 = .int .i64 x7_1 ∧ Aside0 (dropperref01_Moved.l0 kq l0 a1 x6_1 x7_1 = some (r1, r2)) ∧ Aside0 (kq ≤ k) ∧ Aside0 (Kd.R k46 46 w' w.heap.size (fun _ => True) v6 x6_1) ∧ Aside0 (Below w.heap.size w w'))
  case atStart => exact ⟨(([] : List (S46))), (0), rsz, H', ⟨Nat.le_refl _⟩, ⟨by first | exact Kd.R_nil _ _ _ _ _ | exact Kd.N_nil _ _ _ _ _ | exact Kd.V_nil _ _ _ _ _ | exact Kd.Q_nil _ _ _ _ _ | exact Kd.S_nil _ _ _ _ _⟩, ⟨bel⟩⟩
  case round =>
   clear H'
   (try clear c2); (try clear p2); (try clear c3); (try clear c4)
   obtain ⟨x6_1, x7_1, rfl, HA, HK1, HO_6, HB⟩ := hrel
   cases gk with
   | zero => exact absurd HA.out (by simp [dropperref01_Moved.l0])
   | succ k1 =>
    have H := HA.out
    clear HA
    simp only [dropperref01_Moved.l0] at H
    by_cases c6 : x7_1 < (l0.length : Int)
    ·
     rw [if_pos c6] at H
     have c6b0 : decide (x7_1 < (l0.length : Int)) = true := decide_eq_true c6
     clear c6
     by_cases c7 : a1 < (-100000)
     ·
      rw [if_pos c7] at H
      have c7b0 : decide (a1 < (-100000)) = true := decide_eq_true c7
      clear c7
      simp only [Option.some.injEq, Prod.mk.injEq] at H
      obtain ⟨rfl, rfl⟩ := H
      go_wp2
      go_ret2
      exact ⟨_, ezz, by first | exact Kd.R_nil _ _ _ _ _ | exact Kd.N_nil _ _ _ _ _ | exact Kd.V_nil _ _ _ _ _ | exact Kd.Q_nil _ _ _ _ _ | exact Kd.S_nil _ _ _ _ _, bel⟩
     ·
      rw [if_neg c7] at H
      have c7b0 : decide (a1 < (-100000)) = false := decide_eq_false c7
      clear c7
      by_cases c8 : a1 > 100000
      ·
       rw [if_pos c8] at H
       have c8b0 : decide (100000 < a1) = true := decide_eq_true c8
       clear c8
       simp only [Option.some.injEq, Prod.mk.injEq] at H
       obtain ⟨rfl, rfl⟩ := H
       go_wp2
       go_ret2
       exact ⟨_, ezz, by first | exact Kd.R_nil _ _ _ _ _ | exact Kd.N_nil _ _ _ _ _ | exact Kd.V_nil _ _ _ _ _ | exact Kd.Q_nil _ _ _ _ _ | exact Kd.S_nil _ _ _ _ _, bel⟩
      ·
       rw [if_neg c8] at H
       have c8b0 : decide (100000 < a1) = false := decide_eq_false c8
       clear c8
       by_cases c9 : 0 ≤ x7_1
       ·
        rw [if_pos c9] at H
        have c9b0 : decide (0 ≤ x7_1) = true := decide_eq_true c9
        clear c9
        replace H := Option.bind_eq_some_iff.mp H
        obtain ⟨t332, A100, H⟩ := H
        try dsimp only at H
        have A10 := Aside0.mk A100
        clear A100
        by_cases c11 : t332 = true
        ·
         subst c11
         rw [if_pos rfl] at H
         replace H := Option.bind_eq_some_iff.mp H
         obtain ⟨t334, A120, H⟩ := H
         try dsimp only at H
         have A12 := Aside0.mk A120
         clear A120
         by_cases c13 : t334 = true
         ·
          subst c13
          rw [if_pos rfl] at H
          by_cases c14 : x6_1.length < 8796093022208
          ·
           rw [if_pos c14] at H
           have LMc14 := Aside0.mk c14
           clear c14
           obtain ⟨y337, hy337⟩ : ∃ y_ : List (S46), y_ = (x6_1 ++ [(⟨wrap64 (((rd_T46 l0 x7_1).f0) + a1), wrap64 (((rd_T46 l0 x7_1).f1) + a1)⟩ : S46)]) := ⟨_, rfl⟩
           replace H : (dropperref01_Moved.l0 k1 l0 a1 y337 (wrap64 (x7_1 + 1))) = some (r1, r2) := by first | (rw [hy337]; with_reducible exact H) | (have H2_ := (Option.bind_some _ _).symm.trans H; rw [hy337]; with_reducible exact H2_) | (have H2_ := (Option.bind_some _ _).symm.trans H; with_reducible exact H2_) | with_reducible exact H | (rw [hy337]; exact H) | exact H
           have Ny337 := Aside0.mk hy337
           clear hy337
           have H' := Aside0.mk H
           clear H
           have p331 : 0 ≤ (x7_1 : Int) := of_decide_eq_true asz
           have q331 : x7_1 < (l0.length : Int) := of_decide_eq_true asz
           obtain ⟨ad331, e331, hx331_0, hx331_1⟩ := at_T46 HR0.out x7_1 p331 q331
           cases e331
           replace hx331_0 := (HB.out.cell (World.block_lt_of_cell? w _ hx331_0)).trans hx331_0
           replace hx331_1 := (HB.out.cell (World.block_lt_of_cell? w _ hx331_1)).trans hx331_1
           replace p331 := eq_true p331
           replace q331 := eq_true q331
           try go_wp2_with (first | (go_at_call 57; (with_reducible refine (dropperref01_isAt.calls (wrap64 (((rd_T46 l0 x7_1).f0) + a1)) true _ A10.out).mono ?_); rintro e w' ⟨rfl, ⟨nd, rfl⟩⟩; have p333 : 0 ≤ (x7_1 : Int) := of_decide_eq_true asz; have q333 : x7_1 < (l0.length : Int) := of_decide_eq_true asz; obtain ⟨ad333, e333, hx333_0, hx333_1⟩ := at_T46 HR0.out x7_1 p333 q333; obtain rfl : ad331 = ad333 := (by injection e333); replace hx333_0 := (HB.out.cell (World.block_lt_of_cell? w _ hx333_0)).trans hx333_0; replace hx333_1 := (HB.out.cell (World.block_lt_of_cell? w _ hx333_1)).trans hx333_1; replace p333 := eq_true p333; replace q333 := eq_true q333) | (go_at_call 57; (with_reducible refine (dropperref01_isAt.calls (wrap64 (((rd_T46 l0 x7_1).f1) + a1)) true _ A12.out).mono ?_); rintro e w' ⟨rfl, ⟨nd, rfl⟩⟩))
           (try (rw [drewN_self wr]; generalize hq_ : World.drewN wr _ = wr; have n0_ : Aside0 (Kd.R k46 46 wr w.heap.size (fun _ => True) u6 x6_1) := ⟨by rw [← hq_]; exact (ownx HO_6)⟩; have n1_ : Aside0 (Below w.heap.size w wr) := ⟨by rw [← hq_]; exact bel⟩; clear HO_6 HB hq_; have HO_6 := n0_; have HB := n1_; clear n0_ n1_))
           have n0_ := Aside0.mk (Kd.R_drew HO_6.out)
           have n1_ := Aside0.mk (below_drew1 HB.out)
           clear HO_6
           clear HB
           have HO_6 := n0_
           have HB := n1_
           clear n0_ n1_
           have p335 : 0 ≤ (x7_1 : Int) := of_decide_eq_true asz
           have q335 : x7_1 < (l0.length : Int) := of_decide_eq_true asz
           obtain ⟨ad335, e335, hx335_0, hx335_1⟩ := at_T46 HR0.out x7_1 p335 q335
           have hw335_1 := hx335_1
           have hw335_0 := hx335_0
           obtain rfl : ad331 = ad335 := (by injection e335)
           replace hx335_0 := (HB.out.cell (World.block_lt_of_cell? w _ hx335_0)).trans hx335_0
           replace hx335_1 := (HB.out.cell (World.block_lt_of_cell? w _ hx335_1)).trans hx335_1
           replace p335 := eq_true p335
           replace q335 := eq_true q335
           have p336 : 0 ≤ (x7_1 : Int) := of_decide_eq_true asz
           have q336 : x7_1 < (l0.length : Int) := of_decide_eq_true asz
           obtain ⟨ad336, e336, hx336_0, hx336_1⟩ := at_T46 HR0.out x7_1 p336 q336
           have hw336_1 := hx336_1
           have hw336_0 := hx336_0
           obtain rfl : ad331 = ad336 := (by injection e336)
           replace hx336_0 := (HB.out.cell (World.block_lt_of_cell? w _ hx336_0)).trans hx336_0
           replace hx336_1 := (HB.out.cell (World.block_lt_of_cell? w _ hx336_1)).trans hx336_1
           replace p336 := eq_true p336
           replace q336 := eq_true q336
           refine start_ (n := 19) (S := fun w' => w'.cell? (ad331.add ((x7_1).toNat * 2)) = some (.int .i64 ((rd_T46 l0 x7_1).f0)) ∧ w'.cell? ⟨(ad331.add ((x7_1).toNat * 2)).block, (ad331.add ((x7_1).toNat * 2)).off + 1, none⟩ = some (.int .i64 ((rd_T46 l0 x7_1).f1)) ∧ w'.cell? (ad331.add ((x7_1).toNat * 2)) = some (.int .i64 ((rd_T46 l0 x7_1).f0)) ∧ w'.cell? ⟨(ad331.add ((x7_1).toNat * 2)).block, (ad331.add ((x7_1).toNat * 2)).off + 1, none⟩ = some (.int .i64 ((rd_T46 l0 x7_1).f1))) (ds := []) #[false, false, false, false, false, false, false, false, false, false, false, false, false, false, false, false, false, false, false] (by kernel_rfl) rfl rfl ⟨((HB.out.cell (World.block_lt_of_cell? w _ hw335_0)).trans hw335_0), ((HB.out.cell (World.block_lt_of_cell? w _ hw335_1)).trans hw335_1), ((HB.out.cell (World.block_lt_of_cell? w _ hw336_0)).trans hw336_0), ((HB.out.cell (World.block_lt_of_cell? w _ hw336_1)).trans hw336_1)⟩ (fun hHeld => ?_); refine with_tabW dropperref01_Moved.tab9 dropperref01_Moved.bits9 (fun HT_ HW_ => ?_)
           generalize wr.drew = w15 at HO_6 HB hx335_0 hx335_1 hx336_0 hx336_1 hHeld ⊢
           refine pst (i := 0) (N := some 45) (bz 19 1) (any_of HT_.out (by kernel_rfl)) ?_
           refine pst (i := 1) (N := some 46) (bz 19 3) (any_of HT_.out (by kernel_rfl)) ?_
           refine pst (i := 2) (N := some 47) (bz 19 7) (any_of HT_.out (by kernel_rfl)) ?_
           refine pst (i := 3) (N := some 48) (bz 19 15) (any_of HT_.out (by kernel_rfl)) ?_
           refine pst (i := 4) (N := some 49) (bz 19 31) (any_of HT_.out (by kernel_rfl)) ?_
           refine pst (i := 6) (N := some 51) (bz 19 95) (any_of HT_.out (by kernel_rfl)) ?_
           refine pst (i := 8) (N := some 53) (bz 19 351) (any_of HT_.out (by kernel_rfl)) ?_
           refine pst (i := 9) (N := some 54) (bz 19 863) (any_of HT_.out (by kernel_rfl)) ?_
           refine pst (i := 10) (N := some 55) (bz 19 1887) (any_of HT_.out (by kernel_rfl)) ?_
           refine pst (i := 11) (N := some 56) (bz 19 3935) (any_of HT_.out (by kernel_rfl)) ?_
           refine pst (i := 13) (N := some 58) (bz 19 12127) (any_of HT_.out (by kernel_rfl)) ?_
           refine tst4 (i := 5) (N := some 50) (bz 19 12159) (take_ofW HT_.out HW_.out (by kernel_rfl)) hHeld ?_
           refine pst (i := 7) (N := some 52) (bz 19 12287) (any_of HT_.out (by kernel_rfl)) ?_
           refine tst4 (i := 12) (N := some 57) (bz 19 16383) (take_ofW HT_.out HW_.out (by kernel_rfl)) hHeld ?_
           refine pst (i := 14) (N := some 59) (bz 19 32767) (any_of HT_.out (by kernel_rfl)) ?_
           refine pst (i := 15) (N := some 60) (bz 19 65535) (any_of HT_.out (by kernel_rfl)) ?_
           refine one_ (i := 16) (N := some 61) #[true, true, true, true, true, true, true, true, true, true, true, true, true, true, true, true, true, false, false] rfl rfl (one_of HT_.out (by kernel_rfl)) (by decide) (fun K hK => ?_)
           refine value_ (w1 := ?_) (v := ?_) (by rfl) rfl ?_ ?_
           rotate_left 2
           ·
            go_simp
            constructor
            ·
             rfl
            ·
             rfl
           refine hK.out _ _ ⟨(World.cell?_alloc_lt _ _ _ (World.block_lt_of_cell? _ _ (((HB.out.cell (World.block_lt_of_cell? w _ hw335_0)).trans hw335_0)))).trans (((HB.out.cell (World.block_lt_of_cell? w _ hw335_0)).trans hw335_0)), (World.cell?_alloc_lt _ _ _ (World.block_lt_of_cell? _ _ (((HB.out.cell (World.block_lt_of_cell? w _ hw335_1)).trans hw335_1)))).trans (((HB.out.cell (World.block_lt_of_cell? w _ hw335_1)).trans hw335_1)), (World.cell?_alloc_lt _ _ _ (World.block_lt_of_cell? _ _ (((HB.out.cell (World.block_lt_of_cell? w _ hw336_0)).trans hw336_0)))).trans (((HB.out.cell (World.block_lt_of_cell? w _ hw336_0)).trans hw336_0)), (World.cell?_alloc_lt _ _ _ (World.block_lt_of_cell? _ _ (((HB.out.cell (World.block_lt_of_cell? w _ hw336_1)).trans hw336_1)))).trans (((HB.out.cell (World.block_lt_of_cell? w _ hw336_1)).trans hw336_1))⟩ (fun hHeld => ?_)
           clear hK K
           refine norm_ (a' := ?_) ?_ ?_
           rotate_left
           ·
            show Act.put _ (some 61) _ = _
            simp only [Act.put, List.setIfInBounds_toArray, List.set_cons_zero, List.set_cons_succ, i64_w, i32_w]
            rfl
           refine one_ (i := 17) (N := some 62) #[true, true, true, true, true, true, true, true, true, true, true, true, true, true, true, true, true, true, false] rfl rfl (one_of HT_.out (by kernel_rfl)) (by decide) (fun K hK => ?_)
           refine Kd.R_append_step k46 (w0 := w) w.heap.size (by rfl) (.tmp 45) (.tmp 61) 22 46 (.agg #[(.int .i64 0), (.int .i64 0)]) 16 rfl Tryd.underlying22 info46 rfl (by decide) (by omega) u6 x6_1 (⟨wrap64 (((rd_T46 l0 x7_1).f0) + a1), wrap64 (((rd_T46 l0 x7_1).f1) + a1)⟩ : S46) [.int .i64 (wrap64 (((rd_T46 l0 x7_1).f0) + a1)), .int .i64 (wrap64 (((rd_T46 l0 x7_1).f1) + a1))] (fun _ => True) (fun _ => False) rfl rfl ?aP (fun _ hk => hk.elim) ?aF ?aO ?aB ?aS ?aL ?_
           (case aP => exact k46_mkM _ _ _ (⟨wrap64 (((rd_T46 l0 x7_1).f0) + a1), wrap64 (((rd_T46 l0 x7_1).f1) + a1)⟩ : S46))
           (case aB => exact bel)
           (case aF => exact (fun _ _ => trivial))
           (case aO => exact (ownx HO_6))
           (case aS => exact (below_size bel))
           (case aL => have := LMc14.out; omega)
           intro v338 w16 ho hb hg hat
           rw [← Ny337.out] at ho
           have n0_ := Aside0.mk (hb)
           have n1_ := Aside0.mk (ho)
           clear HB
           clear HO_6
           have HB := n0_
           have HO339 := n1_
           clear n0_ n1_
           clear ho hb hg hat
           refine hK.out _ _ ⟨((HB.out.cell (World.block_lt_of_cell? w _ hw335_0)).trans hw335_0), ((HB.out.cell (World.block_lt_of_cell? w _ hw335_1)).trans hw335_1), ((HB.out.cell (World.block_lt_of_cell? w _ hw336_0)).trans hw336_0), ((HB.out.cell (World.block_lt_of_cell? w _ hw336_1)).trans hw336_1)⟩ (fun hHeld => ?_)
           clear hK K
           refine norm_ (a' := ?_) ?_ ?_
           rotate_left
           ·
            show Act.put _ (some 62) _ = _
            simp only [Act.put, List.setIfInBounds_toArray, List.set_cons_zero, List.set_cons_succ, i64_w, i32_w]
            rfl
           refine pst (i := 18) (N := some 6) (bz 19 524287) (any_of HT_.out (by kernel_rfl)) ?_
           refine done_ (done_of HT_.out (by kernel_rfl)) ?_
           try go_wp2
           go_roundg k1
           case measure => have := HK1.out; omega
           case rel => exact ⟨(y337), (wrap64 (x7_1 + 1)), rsz, H', ⟨by have := HK1.out; omega⟩, ⟨by (with_reducible repeat (first | apply Kd.R_alloc | apply Kd.R_drewN | apply Kd.R_drew)); exact HO339.out⟩, ⟨bel⟩⟩
          ·
           rw [if_neg c14] at H
           exact absurd H (by simp)
         ·
          replace c13 := Bool.eq_false_iff.mpr c13
          subst c13
          rw [if_neg (show ¬ (false = true) by decide)] at H
          simp only [Option.some.injEq, Prod.mk.injEq] at H
          obtain ⟨rfl, rfl⟩ := H
          have p331 : 0 ≤ (x7_1 : Int) := of_decide_eq_true asz
          have q331 : x7_1 < (l0.length : Int) := of_decide_eq_true asz
          obtain ⟨ad331, e331, hx331_0, hx331_1⟩ := at_T46 HR0.out x7_1 p331 q331
          cases e331
          replace hx331_0 := (HB.out.cell (World.block_lt_of_cell? w _ hx331_0)).trans hx331_0
          replace hx331_1 := (HB.out.cell (World.block_lt_of_cell? w _ hx331_1)).trans hx331_1
          replace p331 := eq_true p331
          replace q331 := eq_true q331
          go_wp2_with (first | (go_at_call 57; (with_reducible refine (dropperref01_isAt.calls (wrap64 (((rd_T46 l0 x7_1).f0) + a1)) true _ A10.out).mono ?_); rintro e w' ⟨rfl, ⟨nd, rfl⟩⟩; have p333 : 0 ≤ (x7_1 : Int) := of_decide_eq_true asz; have q333 : x7_1 < (l0.length : Int) := of_decide_eq_true asz; obtain ⟨ad333, e333, hx333_0, hx333_1⟩ := at_T46 HR0.out x7_1 p333 q333; obtain rfl : ad331 = ad333 := (by injection e333); replace hx333_0 := (HB.out.cell (World.block_lt_of_cell? w _ hx333_0)).trans hx333_0; replace hx333_1 := (HB.out.cell (World.block_lt_of_cell? w _ hx333_1)).trans hx333_1; replace p333 := eq_true p333; replace q333 := eq_true q333) | (go_at_call 57; (with_reducible refine (dropperref01_isAt.calls (wrap64 (((rd_T46 l0 x7_1).f1) + a1)) false _ A12.out).mono ?_); rintro e w' ⟨rfl, ⟨nd, rfl⟩⟩))
          go_ret2
          exact ⟨_, ezz, by first | exact Kd.R_nil _ _ _ _ _ | exact Kd.N_nil _ _ _ _ _ | exact Kd.V_nil _ _ _ _ _ | exact Kd.Q_nil _ _ _ _ _ | exact Kd.S_nil _ _ _ _ _, bel⟩
        ·
         replace c11 := Bool.eq_false_iff.mpr c11
         subst c11
         rw [if_neg (show ¬ (false = true) by decide)] at H
         simp only [Option.some.injEq, Prod.mk.injEq] at H
         obtain ⟨rfl, rfl⟩ := H
         have p331 : 0 ≤ (x7_1 : Int) := of_decide_eq_true asz
         have q331 : x7_1 < (l0.length : Int) := of_decide_eq_true asz
         obtain ⟨ad331, e331, hx331_0, hx331_1⟩ := at_T46 HR0.out x7_1 p331 q331
         cases e331
         replace hx331_0 := (HB.out.cell (World.block_lt_of_cell? w _ hx331_0)).trans hx331_0
         replace hx331_1 := (HB.out.cell (World.block_lt_of_cell? w _ hx331_1)).trans hx331_1
         replace p331 := eq_true p331
         replace q331 := eq_true q331
         go_wp2_with (first | (go_at_call 57; (with_reducible refine (dropperref01_isAt.calls (wrap64 (((rd_T46 l0 x7_1).f0) + a1)) false _ A10.out).mono ?_); rintro e w' ⟨rfl, ⟨nd, rfl⟩⟩))
         go_ret2
         exact ⟨_, ezz, by first | exact Kd.R_nil _ _ _ _ _ | exact Kd.N_nil _ _ _ _ _ | exact Kd.V_nil _ _ _ _ _ | exact Kd.Q_nil _ _ _ _ _ | exact Kd.S_nil _ _ _ _ _, bel⟩
       ·
        rw [if_neg c9] at H
        exact absurd H (by simp)
    ·
     rw [if_neg c6] at H
     have c6b0 : decide (x7_1 < (l0.length : Int)) = false := decide_eq_false c6
     clear c6
     simp only [Option.some.injEq, Prod.mk.injEq] at H
     obtain ⟨rfl, rfl⟩ := H
     go_wp2
     go_ret2
     exact ⟨_, ezz, by (with_reducible repeat (first | apply Kd.R_alloc | apply Kd.R_drewN | apply Kd.R_drew)); exact HO_6.out, bel⟩
 ·
  replace c4 := Bool.eq_false_iff.mpr c4
  subst c4
  rw [if_neg (show ¬ (false = true) by decide)] at H
  simp only [Option.some.injEq, Prod.mk.injEq] at H
  obtain ⟨rfl, rfl⟩ := H
  go_enter Tryd.func28, Tryd.ntmps28
  go_wp2_with (first | ((with_reducible refine gate_callee (f := 37) rfl ?_); refine goesL_ (some 9) rfl rfl Tryd.func37 (by kernel_rfl) rfl #[.slice A0 l0.length c0] rfl mapz ?_; (with_reducible refine (dropperref01_Valid.calls k _ _ l0 false _ ?side1 HC0.out A3.out).mono ?_); (case side1 => repeat (first | exact HR0.out | (with_reducible refine Kd.C_alloc ?_ _) | (with_reducible refine Kd.C_drewN ?_ _) | (with_reducible refine Kd.C_drew ?_))); rintro e w17 ⟨rfl, hb⟩; refine ⟨_, rfl, ?_⟩; replace HB := Aside0.mk (below_step bel hb); clear hb))
  go_ret2
  exact ⟨_, ezz, by first | exact Kd.R_nil _ _ _ _ _ | exact Kd.N_nil _ _ _ _ _ | exact Kd.V_nil _ _ _ _ _ | exact Kd.Q_nil _ _ _ _ _ | exact Kd.S_nil _ _ _ _ _, bel⟩

end Go.Proofs.YtcmdcgghpkcchaaDoor.XMast
/- Length, Has, Near and Moved: program and reference answer the same. -/
namespace Go.Proofs.YtcmdcgghpkcchaaDoor.Lay
set_option linter.unusedVariables false
set_option linter.unusedSimpArgs false
open Go.RowKit Go.Proofs.YtcmdcgghpkcchaaDoor.XMast Go.Proofs.YtcmdcgghpkcchaaDoorW.PrintWords Go.Proofs.YtcmdcgghpkcchaaDoorW.PrintLast Go.Proofs.YtcmdcgghpkcchaaDoorW.PrintMore
/-! ### find -/
theorem Norm.lt {l : List St} (h : Norm l) {i j : Nat} (hi : i < l.length) (hj : j < l.length) (hij : i < j) : l[i].f1 < l[j].f0 := List.pairwise_iff_getElem.1 h.1 i j hi hj hij
theorem Norm.ends {l : List St} (h : Norm l) {i j : Nat} (hi : i < l.length) (hj : j < l.length) (hij : i ≤ j) : l[i].f1 ≤ l[j].f1 := by
 rcases Nat.eq_or_lt_of_le hij with e | e
 ·
  subst e; exact Int.le_refl _
 ·
  have h1 := h.lt hi hj e
  have h2 := h.2 l[j] (List.getElem_mem hj)
  omega
theorem bs_spec {l : List St} (h : Norm l) (m : Int) : ∀ (k i j : Nat), i ≤ j → j ≤ l.length → j - i < k → (∀ a (ha : a < l.length), a < i → l[a].f1 ≤ m) → (∀ a (ha : a < l.length), j ≤ a → m < l[a].f1) →
  ∃ n, mast_find.bs l m k i j = some n ∧ n ≤ l.length ∧ (∀ a (ha : a < l.length), a < n → l[a].f1 ≤ m) ∧ ∀ a (ha : a < l.length), n ≤ a → m < l[a].f1
 | 0, i, j, _, _, hk, _, _ => by omega
 | k + 1, i, j, hij, hj, hk, h1, h2 => by
  rw [mast_find.bs]
  by_cases hlt : i < j
  ·
   rw [if_pos hlt]
   have hmid : (i + j) / 2 < l.length := by omega
   rw [rdSt l _ hmid]
   by_cases hc : l[(i + j) / 2].f1 ≤ m
   ·
    rw [if_pos hc]
    exact bs_spec h m k _ j (by omega) hj (by omega) (fun a ha hlt => by have := h.ends ha hmid (by omega); omega) h2
   ·
    rw [if_neg hc]
    exact bs_spec h m k i _ (by omega) (by omega) (by omega) h1 (fun a ha hle => by have := h.ends hmid ha (by omega); omega)
  ·
   rw [if_neg hlt]
   have e : i = j := by omega
   subst e
   exact ⟨i, rfl, by omega, h1, h2⟩
theorem find_ {l : List St} (h : Norm l) (hl : l.length ≤ 60) (m : Int) : ∃ n : Nat, mast_find.f l m = some (n : Int) ∧ n ≤ l.length ∧ (∀ a (ha : a < l.length), a < n → l[a].f1 ≤ m) ∧ ∀ a (ha : a < l.length), n ≤ a → m < l[a].f1 := by
 obtain ⟨n, h1, h2⟩ := bs_spec h m (l.length + 1) 0 l.length (by omega) (by omega) (by omega) (fun a ha h => by omega) (fun a ha h => by omega)
 refine ⟨n, ?_, h2⟩
 unfold mast_find.f
 rw [if_pos (by omega), h1]
 rfl
theorem cov_at {l : List St} (h : Norm l) {m : Int} {n : Nat} (h1 : ∀ a (ha : a < l.length), a < n → l[a].f1 ≤ m) (h2 : ∀ a (ha : a < l.length), n ≤ a → m < l[a].f1) : cov l m ↔ ∃ hn : n < l.length, l[n].f0 ≤ m := by
 constructor
 ·
  rintro ⟨s, hs, h3, h4⟩
  obtain ⟨j, hj, rfl⟩ := List.mem_iff_getElem.1 hs
  rcases Nat.lt_trichotomy j n with h5 | h5 | h5
  ·
   have := h1 j hj h5; omega
  ·
   subst h5; exact ⟨hj, h3⟩
  ·
   have h6 := h.lt (i := n) (by omega) hj h5
   have h7 := h2 n (by omega) (Nat.le_refl _)
   omega
 ·
  rintro ⟨hn, h3⟩
  exact ⟨l[n], List.getElem_mem hn, h3, h2 n hn (Nat.le_refl _)⟩
theorem has_ {l : List St} (h : Norm l) (hl : l.length ≤ 60) (m : Int) : ∃ r : Bool, mast_has.f l m = some r ∧ (r = true ↔ cov l m) := by
 obtain ⟨n, e, hn, h1, h2⟩ := find_ h hl m
 have hc := cov_at h h1 h2
 unfold mast_has.f
 rw [e, Option.bind_some]
 by_cases h3 : n < l.length
 ·
  rw [if_pos (by omega), if_pos (by omega), rdSt l n h3]
  refine ⟨_, rfl, ?_⟩
  rw [hc, decide_eq_true_iff]
  exact ⟨fun h => ⟨h3, h⟩, fun ⟨_, h⟩ => h⟩
 ·
  rw [if_neg (by omega)]
  refine ⟨_, rfl, ?_⟩
  rw [hc]
  exact ⟨(fun h => by cases h), fun ⟨h, _⟩ => absurd h h3⟩
theorem has_val {l : List St} (h : Norm l) (hl : l.length ≤ 60) (m : Int) : mast_has.f l m = some (decide (cnt l m > 0)) := by
 obtain ⟨r, e, h0⟩ := has_ h hl m
 rw [e]
 congr 1
 have h1 : r = true ↔ 0 < cnt l m := h0.trans cnt_pos.symm
 by_cases h2 : 0 < cnt l m
 ·
  rw [h1.2 h2]; exact (decide_eq_true h2).symm
 ·
  rw [decide_eq_false h2]
  cases r
  ·
   rfl
  ·
   exact absurd (h1.1 rfl) h2
theorem Has_both (l : List St) (m : Int) (hl : l.length ≤ 9223372036854775806) : ∃ r, Ev (fun k => mast_Has.f k l m) r ∧ Ev (fun k => dropperref01_Has.f k l m) r := by
 unfold mast_Has.f dropperref01_Has.f
 by_cases h : okB l = true
 ·
  have h' := (okB_iff l).1 h
  refine ⟨(decide (cnt l m > 0), 0), Ev.bind (mvalid l hl) (ev_pos h (ev_val (has_val h'.1 h'.2 m) (Ev.now _))), Ev.bind (rvalid l hl) (ev_pos h (Ev.bind (depth l m (by omega)) (Ev.now _)))⟩
 ·
  exact ⟨_, Ev.bind (mvalid l hl) (ev_neg h (Ev.now _)), Ev.bind (rvalid l hl) (ev_neg h (Ev.now _))⟩
theorem Length_ (l : List St) (h : Norm l ∧ l.length ≤ 60) : Ev (fun k => mast_Length.f k l) (tot l, 0) := by
 unfold mast_Length.f
 exact Ev.bind (mvalid l (by omega)) (ev_pos ((okB_iff l).2 h) (Ev.bind (length_ l (by omega) h.1.isSt) (Ev.now _)))
theorem Length_both (l : List St) (hl : l.length ≤ 9223372036854775806) : ∃ r, Ev (fun k => mast_Length.f k l) r ∧ Ev (fun k => dropperref01_Length.f k l) r := by
 by_cases h : okB l = true
 ·
  have h' := (okB_iff l).1 h
  refine ⟨_, Length_ l h', ?_⟩
  unfold dropperref01_Length.f
  exact Ev.bind (rvalid l hl) (ev_pos h (Ev.bind (sum_ l (by omega) h'.1.isSt) (Ev.now _)))
 ·
  unfold mast_Length.f dropperref01_Length.f
  exact ⟨_, Ev.bind (mvalid l hl) (ev_neg h (Ev.now _)), Ev.bind (rvalid l hl) (ev_neg h (Ev.now _))⟩
/-! ### Moved -/
def movF (by_ : Int) : List St → List St → List St × Int
 | [], out => (out, 0)
 | s :: t, out => if by_ < -s.f0 ∨ by_ > 100000 - s.f1 then ([], 2) else movF by_ t (out ++ [⟨s.f0 + by_, s.f1 + by_⟩])
theorem drop_at {l : List St} {i : Nat} (h : i < l.length) : l.drop i = l[i] :: l.drop (i + 1) := List.drop_eq_getElem_cons h
theorem ris (x : Int) : dropperref01_isAt.f x = some (decide (0 ≤ x ∧ x ≤ 100000)) := by
 unfold dropperref01_isAt.f
 by_cases h : x ≥ 0
 ·
  rw [if_pos h]; congr 1; by_cases h2 : x ≤ 100000
  ·
   rw [decide_eq_true h2, decide_eq_true ⟨h, h2⟩]
  ·
   rw [decide_eq_false h2, decide_eq_false (fun h3 => h2 h3.2)]
 ·
  rw [if_neg h, decide_eq_false (fun h3 => h h3.1)]
theorem moved_m (l : List St) (h : Norm l ∧ l.length ≤ 60) (n : Int) : Ev (fun k => mast_Moved.f k l n) (movF n l []) := by
 unfold mast_Moved.f
 refine Ev.bind (mvalid l (by omega)) (ev_pos ((okB_iff l).2 h) ?_)
 have H : ∀ (d i : Nat) (out : List St), i + d = l.length → out.length = i → Ev (fun k => mast_Moved.l0 k n out l (l.length : Int) (i : Int)) (movF n (l.drop i) out) := by
  intro d
  induction d with
  | zero =>
   intro i out hi ho
   refine Ev.step (fun k => by rw [mast_Moved.l0]) ?_
   rw [List.drop_of_length_le (by omega)]
   exact ev_neg (by omega) (Ev.now _)
  | succ d ih =>
   intro i out hi ho
   have hil : i < l.length := by omega
   have hs := h.1.2 l[i] (List.getElem_mem hil)
   refine Ev.step (fun k => by rw [mast_Moved.l0]) ?_
   rw [drop_at hil, rdSt l i hil, wrap_succ (n := l.length) hil (by omega), movF, wrap_id (x := -l[i].f0) (by omega) (by omega), wrap_id (x := 100000 - l[i].f1) (by omega) (by omega)]
   refine ev_pos (by omega) (ev_pos (by omega) (ev_pos (by omega) ?_))
   by_cases h1 : n < -l[i].f0
   ·
    rw [if_pos (.inl h1)]; exact ev_pos h1 (Ev.now _)
   ·
    by_cases h2 : n > 100000 - l[i].f1
    ·
     rw [if_pos (.inr h2)]; exact ev_neg h1 (ev_pos h2 (Ev.now _))
    ·
     rw [if_neg (by omega), wrap_id (x := l[i].f0 + n) (by omega) (by omega), wrap_id (x := l[i].f1 + n) (by omega) (by omega)]
     exact ev_neg h1 (ev_neg h2 (ev_pos (by omega) (ih (i + 1) _ (by omega) (by simp [ho]))))
 exact H l.length 0 [] (by omega) rfl
theorem moved_r (l : List St) (h : Norm l ∧ l.length ≤ 60) (n : Int) : Ev (fun k => dropperref01_Moved.f k l n) (movF n l []) := by
 unfold dropperref01_Moved.f
 refine Ev.bind (rvalid l (by omega)) (ev_pos ((okB_iff l).2 h) ?_)
 have H : ∀ (d i : Nat) (out : List St), i + d = l.length → out.length = i → Ev (fun k => dropperref01_Moved.l0 k l n out (i : Int)) (movF n (l.drop i) out) := by
  intro d
  induction d with
  | zero =>
   intro i out hi ho
   refine Ev.step (fun k => by rw [dropperref01_Moved.l0]) ?_
   rw [List.drop_of_length_le (by omega)]
   exact ev_neg (by omega) (Ev.now _)
  | succ d ih =>
   intro i out hi ho
   have hil : i < l.length := by omega
   have hs := h.1.2 l[i] (List.getElem_mem hil)
   refine Ev.step (fun k => by rw [dropperref01_Moved.l0]) ?_
   rw [drop_at hil, rdSt l i hil, wrap_succ (n := l.length) hil (by omega), movF]
   refine ev_pos (by omega) ?_
   by_cases h1 : n < -100000
   ·
    rw [if_pos (.inl (by omega))]; exact ev_pos h1 (Ev.now _)
   ·
    by_cases h2 : n > 100000
    ·
     rw [if_pos (.inr (by omega))]; exact ev_neg h1 (ev_pos h2 (Ev.now _))
    ·
     rw [wrap_id (x := l[i].f0 + n) (by omega) (by omega), wrap_id (x := l[i].f1 + n) (by omega) (by omega), ris, ris]
     refine ev_neg h1 (ev_neg h2 (ev_pos (by omega) (ev_some ?_)))
     by_cases h3 : 0 ≤ l[i].f0 + n ∧ l[i].f0 + n ≤ 100000
     ·
      refine ev_pos (decide_eq_true h3) (ev_some ?_)
      by_cases h4 : 0 ≤ l[i].f1 + n ∧ l[i].f1 + n ≤ 100000
      ·
       rw [if_neg (by omega)]
       exact ev_pos (decide_eq_true h4) (ev_pos (by omega) (ih (i + 1) _ (by omega) (by simp [ho])))
      ·
       rw [if_pos (by omega)]
       exact ev_neg (by simp only [decide_eq_true_eq]; exact h4) (Ev.now _)
     ·
      rw [if_pos (by omega)]
      exact ev_neg (by simp only [decide_eq_true_eq]; exact h3) (Ev.now _)
 exact H l.length 0 [] (by omega) rfl
theorem Moved_both (l : List St) (n : Int) (hl : l.length ≤ 9223372036854775806) : ∃ r, Ev (fun k => mast_Moved.f k l n) r ∧ Ev (fun k => dropperref01_Moved.f k l n) r := by
 by_cases h : okB l = true
 ·
  have h' := (okB_iff l).1 h
  exact ⟨_, moved_m l h' n, moved_r l h' n⟩
 ·
  unfold mast_Moved.f dropperref01_Moved.f
  exact ⟨_, Ev.bind (mvalid l hl) (ev_neg h (Ev.now _)), Ev.bind (rvalid l hl) (ev_neg h (Ev.now _))⟩
def shift (n : Int) (l : List St) : List St := l.map fun s => ⟨s.f0 + n, s.f1 + n⟩
theorem movF_spec (n : Int) : ∀ (l out : List St), (movF n l out = ([], 2)) ∨ ((∀ s ∈ l, 0 ≤ s.f0 + n ∧ s.f1 + n ≤ 100000) ∧ movF n l out = (out ++ shift n l, 0))
 | [], out => .inr ⟨(fun _ h => by cases h), by simp [movF, shift]⟩
 | s :: t, out => by
  rw [movF]
  by_cases h : n < -s.f0 ∨ n > 100000 - s.f1
  ·
   rw [if_pos h]; exact .inl rfl
  ·
   rw [if_neg h]
   rcases movF_spec n t (out ++ [⟨s.f0 + n, s.f1 + n⟩]) with h1 | ⟨h1, h2⟩
   ·
    exact .inl h1
   ·
    refine .inr ⟨fun u hu => ?_, ?_⟩
    ·
     rcases List.mem_cons.1 hu with rfl | hu
     ·
      omega
     ·
      exact h1 u hu
    ·
     rw [h2]; simp [shift]
theorem movF_ok (n : Int) : ∀ (l out : List St), (∀ s ∈ l, 0 ≤ s.f0 + n ∧ s.f1 + n ≤ 100000) → movF n l out = (out ++ shift n l, 0)
 | [], out, _ => by simp [movF, shift]
 | s :: t, out, h => by
  have h1 := h s List.mem_cons_self
  rw [movF, if_neg (by omega), movF_ok n t _ (fun u hu => h u (List.mem_cons_of_mem _ hu))]
  simp [shift]
theorem shift_norm {n : Int} : ∀ {l : List St}, Norm l → (∀ s ∈ l, 0 ≤ s.f0 + n ∧ s.f1 + n ≤ 100000) → Norm (shift n l) := fun {l} h hs => by
 refine ⟨?_, fun u hu => ?_⟩
 ·
  unfold shift
  rw [List.pairwise_map]
  exact h.1.imp (fun {a b} h => by show a.f1 + n < b.f0 + n; omega)
 ·
  obtain ⟨s, h1, rfl⟩ := List.mem_map.1 hu
  have h2 := hs s h1
  have h3 := h.2 s h1
  show 0 ≤ s.f0 + n ∧ s.f0 + n < s.f1 + n ∧ s.f1 + n ≤ 100000
  omega
theorem shift_back (n : Int) (l : List St) : shift (-n) (shift n l) = l := by
 unfold shift
 rw [List.map_map]
 conv => rhs; rw [← List.map_id l]
 refine List.map_congr_left fun s _ => ?_
 show (⟨s.f0 + n + -n, s.f1 + n + -n⟩ : St) = s
 exact St.ext' (by show s.f0 + n + -n = s.f0; omega) (by show s.f1 + n + -n = s.f1; omega)
theorem tot_shift (n : Int) : ∀ l : List St, tot (shift n l) = tot l
 | [] => rfl
 | s :: t => by
  show (s.f1 + n - (s.f0 + n)) + tot (shift n t) = _
  rw [tot_shift n t, tot]; omega
/-! ### Near -/
def ab (m x : Int) : Int := if x < m then m - x else x - m
def nst (m : Int) (s : St) : Int := mn (mx m s.f0) (s.f1 - 1)
def nstep (m best : Int) (s : St) : Int := if ab m (nst m s) < ab m best then nst m s else best
theorem mx_ab {m x : Int} : mx (x - m) (m - x) = ab m x := by unfold mx ab; split <;> split <;> omega
theorem nst_in {m : Int} {s : St} (hm : 0 ≤ m ∧ m < 100000) (hs : 0 ≤ s.f0 ∧ s.f0 < s.f1 ∧ s.f1 ≤ 100000) : 0 ≤ nst m s ∧ nst m s ≤ 100000 := by
 unfold nst mn mx
 split <;> split <;> omega
theorem near_r (l : List St) (h : Norm l ∧ l.length ≤ 60) (m : Int) (hm : 0 ≤ m ∧ m < 100000) : ∀ (d i : Nat) (best : Int), i + d = l.length → 0 ≤ best → best ≤ 100000 → Ev (fun k => dropperref01_Near.l0 k l m best (i : Int)) ((l.drop i).foldl (nstep m) best, 0) := by
 intro d
 induction d with
 | zero =>
  intro i best hi h0 h1
  refine Ev.step (fun k => by rw [dropperref01_Near.l0]) ?_
  rw [List.drop_of_length_le (by omega)]
  exact ev_neg (by omega) (Ev.now _)
 | succ d ih =>
  intro i best hi h0 h1
  have hil : i < l.length := by omega
  have hs := h.1.2 l[i] (List.getElem_mem hil)
  have hn := nst_in hm hs
  refine Ev.step (fun k => by rw [dropperref01_Near.l0]) ?_
  rw [drop_at hil, rdSt l i hil, wrap_succ (n := l.length) hil (by omega), List.foldl_cons]
  rw [wrap_id (x := l[i].f1 - 1) (by omega) (by omega)]
  show Ev (fun k => if (i : Int) < (l.length : Int) then (if 0 ≤ (i : Int) then (if mx (wrap64 (nst m l[i] - m)) (wrap64 (m - nst m l[i])) < mx (wrap64 (best - m)) (wrap64 (m - best)) then dropperref01_Near.l0 k l m (nst m l[i]) ((i + 1 : Nat) : Int) else dropperref01_Near.l0 k l m best ((i + 1 : Nat) : Int)) else none) else some (best, 0)) _
  rw [wrap_id (x := nst m l[i] - m) (by omega) (by omega), wrap_id (x := m - nst m l[i]) (by omega) (by omega), wrap_id (x := best - m) (by omega) (by omega), wrap_id (x := m - best) (by omega) (by omega), mx_ab, mx_ab]
  refine ev_pos (by omega) (ev_pos (by omega) ?_)
  unfold nstep
  by_cases hc : ab m (nst m l[i]) < ab m best
  ·
   rw [if_pos hc]; exact ev_pos hc (ih (i + 1) _ (by omega) hn.1 hn.2)
  ·
   rw [if_neg hc]; exact ev_neg hc (ih (i + 1) _ (by omega) h0 h1)
theorem fold_stay (m : Int) : ∀ (l : List St) (best : Int), (∀ s ∈ l, ab m best ≤ ab m (nst m s)) → l.foldl (nstep m) best = best
 | [], _, _ => rfl
 | s :: t, best, h => by
  rw [List.foldl_cons, nstep, if_neg (by have := h s List.mem_cons_self; omega)]
  exact fold_stay m t best (fun u hu => h u (List.mem_cons_of_mem _ hu))
theorem nstep_front {m best e : Int} {s : St} (h : nst m s = e) (he : e < m) (hb : best ≤ e) : nstep m best s = e := by
 have e1 : ab m e = m - e := by unfold ab; rw [if_pos he]
 have e2 : ab m best = m - best := by unfold ab; rw [if_pos (by omega)]
 unfold nstep
 rw [h, e1, e2]
 by_cases h1 : best = e
 ·
  rw [if_neg (by omega), h1]
 ·
  rw [if_pos (by omega)]
theorem fold_front (m : Int) : ∀ (l : List St) (s : St) (best : Int), Norm (l ++ [s]) → (∀ u ∈ l ++ [s], u.f1 ≤ m) → best ≤ (l.headD s).f1 - 1 → (l ++ [s]).foldl (nstep m) best = s.f1 - 1
 | [], s, best, hn, he, hb => by
  have h1 := hn.2 s (by simp)
  have h2 := he s (by simp)
  have hb' : best ≤ s.f1 - 1 := hb
  have e : nst m s = s.f1 - 1 := by unfold nst mn mx; split <;> split <;> omega
  exact nstep_front e (by omega) hb'
 | u :: t, s, best, hn, he, hb => by
  have h1 := hn.2 u (by simp)
  have h2 := he u (by simp)
  have hb' : best ≤ u.f1 - 1 := hb
  have e : nst m u = u.f1 - 1 := by unfold nst mn mx; split <;> split <;> omega
  have e2 : nstep m best u = u.f1 - 1 := nstep_front e (by omega) hb'
  rw [List.cons_append, List.foldl_cons, e2]
  rw [List.cons_append, Norm.cons] at hn
  refine fold_front m t s _ hn.1 (fun v hv => he v (by rw [List.cons_append]; exact List.mem_cons_of_mem _ hv)) ?_
  have h3 : t.headD s ∈ t ++ [s] := by cases t <;> simp
  have h4 := hn.2.1 _ h3
  have h5 := hn.1.2 _ h3
  omega
end Go.Proofs.YtcmdcgghpkcchaaDoor.Lay

/- What two lays have together: program and reference answer the same. -/
namespace Go.Proofs.YtcmdcgghpkcchaaDoor.Lay
set_option linter.unusedVariables false
set_option linter.unusedSimpArgs false
open Go.RowKit Go.Proofs.YtcmdcgghpkcchaaDoor.XMast Go.Proofs.YtcmdcgghpkcchaaDoorW.PrintWords Go.Proofs.YtcmdcgghpkcchaaDoorW.PrintLast Go.Proofs.YtcmdcgghpkcchaaDoorW.PrintMore
theorem IsLay.congr {Q R : Int → Prop} {o : List St} (h : IsLay Q o) (hq : ∀ x, 0 ≤ x → x < 100000 → (Q x ↔ R x)) : IsLay R o := ⟨h.1, fun x => by
 rw [h.2]
 constructor
 ·
  rintro ⟨a, b, c⟩; exact ⟨a, b, (hq x a b).1 c⟩
 ·
  rintro ⟨a, b, c⟩; exact ⟨a, b, (hq x a b).2 c⟩⟩
def Ok (l : List St) : Prop := Norm l ∧ l.length ≤ 60
def bothL (p : Int → Bool) (a b : List St) : List St := swept p (srt (chg 1 a ++ chg 2 b))
theorem both_lay (p : Int → Bool) {a b : List St} (ha : Ok a) (hb : Ok b) : IsLay (fun x => p (cnt a x + 2 * cnt b x) = true) (bothL p a b) := by
 have h := swept_lay p (good_both ha hb)
 refine h.congr fun x _ _ => ?_
 rw [lev_append, lev_chg 1 a x ha.1.isSt, lev_chg 2 b x hb.1.isSt, Int.one_mul]
theorem both_ev (p : Int → Bool) {a b : List St} (ha : Ok a) (hb : Ok b) : Ev (fun k => bothF p k a b) (fin (bothL p a b)) := by
 unfold bothF
 refine ev_pos ⟨by have := ha.2; omega, by have := hb.2; omega⟩ (Ev.bind (mvalid a (by have := ha.2; omega)) (ev_pos ((okB_iff a).2 ha) (Ev.bind (mvalid b (by have := hb.2; omega)) (ev_pos ((okB_iff b).2 hb) (Ev.now _)))))
theorem both_no (p : Int → Bool) {a b : List St} (h : ¬ (Ok a ∧ Ok b)) (hla : a.length ≤ 9223372036854775806) (hlb : b.length ≤ 9223372036854775806) : Ev (fun k => bothF p k a b) ([], 10) := by
 unfold bothF
 refine ev_pos ⟨hla, hlb⟩ (Ev.bind (mvalid a hla) ?_)
 by_cases ha : Ok a
 ·
  exact ev_pos ((okB_iff a).2 ha) (Ev.bind (mvalid b hlb) (ev_neg (fun e => h ⟨ha, (okB_iff b).1 e⟩) (Ev.now _)))
 ·
  exact ev_neg (fun e => ha ((okB_iff a).1 e)) (Ev.now _)
theorem together_no (how : Int) {a b : List St} (h : ¬ (Ok a ∧ Ok b)) (hla : a.length ≤ 9223372036854775806) (hlb : b.length ≤ 9223372036854775806) : Ev (fun k => dropperref01_together.f k a b how) ([], 10) := by
 unfold dropperref01_together.f
 refine Ev.bind (rvalid a hla) ?_
 by_cases ha : Ok a
 ·
  have hb : okB b = false := by
   cases e : okB b
   ·
    rfl
   ·
    exact absurd ⟨ha, (okB_iff b).1 e⟩ h
  refine ev_pos ((okB_iff a).2 ha) (Ev.bind (rvalid b hlb) ?_)
  rw [hb]
  refine Ev.step (fun k => by rw [dropperref01_together.j0]) ?_
  exact ev_pos rfl (Ev.now _)
 ·
  exact ev_neg (fun e => ha ((okB_iff a).1 e)) (Ev.step (fun k => by rw [dropperref01_together.j0]) (ev_pos rfl (Ev.now _)))
theorem sets_gen (p : Int → Bool) (how : Int) (hh : how = 1 ∨ how = 2 ∨ how = 3) (hp : ∀ x y : Int, 0 ≤ x → x ≤ 1 → 0 ≤ y → y ≤ 1 → (p (x + 2 * y) = true ↔ tog how x y = true)) (a b : List St)
  (hla : a.length ≤ 9223372036854775806) (hlb : b.length ≤ 9223372036854775806) : ∃ r, Ev (fun k => bothF p k a b) r ∧ Ev (fun k => dropperref01_together.f k a b how) r ∧ r.1.length ≤ 60 := by
 by_cases h : Ok a ∧ Ok b
 ·
  refine ⟨_, both_ev p h.1 h.2, together_ref how hh h.1 h.2 ((both_lay p h.1 h.2).congr fun x _ _ => ?_), fin_len _⟩
  exact hp _ _ (cnt_nonneg a x).1 (h.1.1.cnt_le x) (cnt_nonneg b x).1 (h.2.1.cnt_le x)
 ·
  exact ⟨_, both_no p h hla hlb, together_no how h hla hlb, Nat.zero_le _⟩
theorem p_join {x y : Int} (h0 : 0 ≤ x) (h1 : x ≤ 1) (h2 : 0 ≤ y) (h3 : y ≤ 1) : (mast_Join.p (x + 2 * y) = true ↔ tog 1 x y = true) := by
 have e : tog 1 x y = (decide (0 < x) || decide (0 < y)) := rfl
 unfold mast_Join.p
 rw [e, decide_eq_true_iff, Bool.or_eq_true, decide_eq_true_iff, decide_eq_true_iff]
 omega
theorem p_both {x y : Int} (h0 : 0 ≤ x) (h1 : x ≤ 1) (h2 : 0 ≤ y) (h3 : y ≤ 1) : (mast_Both.p (x + 2 * y) = true ↔ tog 2 x y = true) := by
 have e : tog 2 x y = (decide (0 < x) && decide (0 < y)) := rfl
 unfold mast_Both.p
 rw [e, beq_iff_eq, Bool.and_eq_true, decide_eq_true_iff, decide_eq_true_iff]
 omega
theorem p_less {x y : Int} (h0 : 0 ≤ x) (h1 : x ≤ 1) (h2 : 0 ≤ y) (h3 : y ≤ 1) : (mast_Without.p (x + 2 * y) = true ↔ tog 3 x y = true) := by
 have e : tog 3 x y = (decide (0 < x) && !decide (0 < y)) := rfl
 unfold mast_Without.p
 rw [e, beq_iff_eq, Bool.and_eq_true, decide_eq_true_iff, Bool.not_eq_true', decide_eq_false_iff_not]
 omega
theorem Join_both (a b : List St) (hla : a.length ≤ 9223372036854775806) (hlb : b.length ≤ 9223372036854775806) : ∃ r, Ev (fun k => mast_Join.f k a b) r ∧ Ev (fun k => dropperref01_Join.f k a b) r ∧ r.1.length ≤ 60 := by
 obtain ⟨r, h1, h2, h3⟩ := sets_gen mast_Join.p 1 (by omega) (fun x y => p_join) a b hla hlb
 unfold mast_Join.f dropperref01_Join.f
 exact ⟨r, h1, Ev.bind h2 (Ev.now _), h3⟩
theorem Both_both (a b : List St) (hla : a.length ≤ 9223372036854775806) (hlb : b.length ≤ 9223372036854775806) : ∃ r, Ev (fun k => mast_Both.f k a b) r ∧ Ev (fun k => dropperref01_Both.f k a b) r ∧ r.1.length ≤ 60 := by
 obtain ⟨r, h1, h2, h3⟩ := sets_gen mast_Both.p 2 (by omega) (fun x y => p_both) a b hla hlb
 unfold mast_Both.f dropperref01_Both.f
 exact ⟨r, h1, Ev.bind h2 (Ev.now _), h3⟩
theorem Without_both (a b : List St) (hla : a.length ≤ 9223372036854775806) (hlb : b.length ≤ 9223372036854775806) : ∃ r, Ev (fun k => mast_Without.f k a b) r ∧ Ev (fun k => dropperref01_Without.f k a b) r ∧ r.1.length ≤ 60 := by
 obtain ⟨r, h1, h2, h3⟩ := sets_gen mast_Without.p 3 (by omega) (fun x y => p_less) a b hla hlb
 unfold mast_Without.f dropperref01_Without.f
 exact ⟨r, h1, Ev.bind h2 (Ev.now _), h3⟩
theorem ok_nil : Ok [] := ⟨Norm.nil, Nat.zero_le _⟩
theorem ok_line : Ok [⟨0, 100000⟩] := ⟨Norm.cons.2 ⟨Norm.nil, (fun _ h => by cases h), by decide, by decide, by decide⟩, by decide⟩
theorem Rest_both (l : List St) (hl : l.length ≤ 9223372036854775806) : ∃ r, Ev (fun k => mast_Rest.f k l) r ∧ Ev (fun k => dropperref01_Rest.f k l) r ∧ r.1.length ≤ 60 := by
 unfold mast_Rest.f dropperref01_Rest.f
 by_cases h : Ok l
 ·
  refine ⟨_, both_ev mast_Rest.p h ok_nil, Ev.bind (together_ref 3 (by omega) ok_line h ((both_lay mast_Rest.p h ok_nil).congr fun x h0 h1 => ?_)) (Ev.now _), fin_len _⟩
  have h2 := cnt_nonneg l x
  have e1 : cnt [⟨0, 100000⟩] x = 1 := by
   show (if 0 ≤ x ∧ x < 100000 then 1 else 0) + 0 = (1 : Int)
   rw [if_pos ⟨h0, h1⟩]; rfl
  have e2 : cnt [] x = 0 := rfl
  have e3 : ∀ y, tog 3 1 y = !decide (0 < y) := fun y => rfl
  rw [e1, e2, e3]
  unfold mast_Rest.p
  rw [beq_iff_eq, Bool.not_eq_true', decide_eq_false_iff_not]
  omega
 ·
  exact ⟨_, both_no mast_Rest.p (fun h' => h h'.1) hl (by simp), Ev.bind (together_no 3 (fun h' => h h'.2) (by simp) hl) (Ev.now _), Nat.zero_le _⟩
/-! ### Under -/
theorem bad_iff {b : List St} (hb : Ok b) {s : St} (hs : s.f0 < s.f1) : mast_Under.bad b s = false ↔ ∀ x, s.f0 ≤ x → x < s.f1 → cov b x := by
 obtain ⟨n, e, hn, h1, h2⟩ := find_ hb.1 hb.2 s.f0
 have hc := cov_at hb.1 h1 h2
 unfold mast_Under.bad
 rw [e]
 show (if (n : Int) = (b.length : Int) then true else if s.f0 < (rd_T46 b (n : Int)).f0 then true else decide (s.f1 > (rd_T46 b (n : Int)).f1)) = false ↔ _
 by_cases hnl : n = b.length
 ·
  rw [if_pos (by omega)]
  refine ⟨(fun h => by cases h), fun h => ?_⟩
  obtain ⟨h3, _⟩ := hc.1 (h s.f0 (Int.le_refl _) hs)
  omega
 ·
  have h3 : n < b.length := by omega
  rw [if_neg (by omega), rdSt b n h3]
  have h5 := h2 n h3 (Nat.le_refl _)
  by_cases h4 : s.f0 < b[n].f0
  ·
   rw [if_pos h4]
   refine ⟨(fun h => by cases h), fun h => ?_⟩
   obtain ⟨_, h6⟩ := hc.1 (h s.f0 (Int.le_refl _) hs)
   omega
  ·
   rw [if_neg h4, decide_eq_false_iff_not]
   constructor
   ·
    intro h6 x h7 h8
    exact ⟨b[n], List.getElem_mem h3, by omega, by omega⟩
   ·
    intro h6 h7
    obtain ⟨t, ht, h8, h9⟩ := h6 b[n].f1 (by omega) h7
    obtain ⟨j, hj, rfl⟩ := List.mem_iff_getElem.1 ht
    rcases Nat.lt_trichotomy j n with h10 | h10 | h10
    ·
     have := hb.1.ends hj h3 (by omega); omega
    ·
     subst h10; omega
    ·
     have := hb.1.lt h3 hj h10; omega
theorem under_iff {a b : List St} (ha : Ok a) (hb : Ok b) : (!(a.any (mast_Under.bad b))) = true ↔ ∀ x, cov a x → cov b x := by
 rw [Bool.not_eq_true', List.any_eq_false]
 constructor
 ·
  rintro h x ⟨s, hs, h1, h2⟩
  exact (bad_iff hb (ha.1.2 s hs).2.1).1 (by have := h s hs; simpa using this) x h1 h2
 ·
  intro h s hs
  rw [Bool.not_eq_true]
  exact (bad_iff hb (ha.1.2 s hs).2.1).2 (fun x h1 h2 => h x ⟨s, hs, h1, h2⟩)
theorem lay_nil {Q : Int → Prop} {o : List St} (h : IsLay Q o) : o = [] ↔ ∀ x, 0 ≤ x → x < 100000 → ¬ Q x := by
 constructor
 ·
  rintro rfl x h0 h1 h2
  exact cov_nil x ((h.2 x).2 ⟨h0, h1, h2⟩)
 ·
  intro h1
  cases o with
  | nil => rfl
  | cons s t =>
   have h2 := h.1.2 s List.mem_cons_self
   have h3 := (h.2 s.f0).1 (cov_cons.2 (.inl ⟨Int.le_refl _, h2.2.1⟩))
   exact absurd h3.2.2 (h1 _ h3.1 h3.2.1)
theorem cov_in {l : List St} (h : Norm l) {x : Int} (hx : cov l x) : 0 ≤ x ∧ x < 100000 := by
 obtain ⟨s, hs, h1, h2⟩ := hx
 have := h.2 s hs
 omega
theorem less_cov {a b : List St} (ha : Ok a) (hb : Ok b) : IsLay (fun x => cov a x ∧ ¬ cov b x) (bothL mast_Without.p a b) :=
 (both_lay mast_Without.p ha hb).congr fun x _ _ => by
  rw [p_less (cnt_nonneg a x).1 (ha.1.cnt_le x) (cnt_nonneg b x).1 (hb.1.cnt_le x)]
  have e : tog 3 (cnt a x) (cnt b x) = (decide (0 < cnt a x) && !decide (0 < cnt b x)) := rfl
  rw [e, Bool.and_eq_true, decide_eq_true_iff, Bool.not_eq_true', decide_eq_false_iff_not, cnt_pos, cnt_pos]
theorem under_nil {a b : List St} (ha : Ok a) (hb : Ok b) : (!(a.any (mast_Under.bad b))) = true ↔ bothL mast_Without.p a b = [] := by
 rw [under_iff ha hb, lay_nil (less_cov ha hb)]
 constructor
 ·
  rintro h x _ _ ⟨h1, h2⟩
  exact h2 (h x h1)
 ·
  intro h x hx
  obtain ⟨h0, h1⟩ := cov_in ha.1 hx
  exact Classical.byContradiction fun h2 => h x h0 h1 ⟨hx, h2⟩
theorem Under_ok {a b : List St} (ha : Ok a) (hb : Ok b) : Ev (fun k => mast_Under.f k a b) (!(a.any (mast_Under.bad b)), 0) := by
 unfold mast_Under.f
 exact ev_pos (by have := hb.2; omega) (Ev.bind (mvalid a (by have := ha.2; omega)) (ev_pos ((okB_iff a).2 ha) (Ev.bind (mvalid b (by have := hb.2; omega)) (ev_pos ((okB_iff b).2 hb) (Ev.now _)))))
theorem Under_both (a b : List St) (hla : a.length ≤ 1000000) (hlb : b.length ≤ 1000000) : ∃ r, Ev (fun k => mast_Under.f k a b) r ∧ Ev (fun k => dropperref01_Under.f k a b) r := by
 unfold dropperref01_Under.f
 by_cases h : Ok a ∧ Ok b
 ·
  refine ⟨_, Under_ok h.1 h.2, ?_⟩
  have hw := together_ref 3 (by omega) h.1 h.2 ((both_lay mast_Without.p h.1 h.2).congr fun x _ _ => p_less (cnt_nonneg a x).1 (h.1.1.cnt_le x) (cnt_nonneg b x).1 (h.2.1.cnt_le x))
  have hw2 : Ev (fun k => dropperref01_Without.f k a b) (fin (bothL mast_Without.p a b)) := by
   unfold dropperref01_Without.f
   exact Ev.bind hw (Ev.now _)
  refine Ev.bind hw2 ?_
  have hu := under_nil h.1 h.2
  generalize bothL mast_Without.p a b = o at hu ⊢
  unfold fin
  by_cases h60 : o.length > 60
  ·
   rw [if_pos h60]
   refine ev_neg (by decide) (ev_neg (by decide) (ev_const ?_))
   have : (!(a.any (mast_Under.bad b))) = false := by
    rw [Bool.eq_false_iff]
    intro h'
    rw [hu.1 h'] at h60
    simp at h60
   rw [this]
  ·
   rw [if_neg h60]
   refine ev_neg (by show ¬ (0 : Int) = 10; decide) (ev_pos rfl (ev_const ?_))
   have : (!(a.any (mast_Under.bad b))) = ((o.length : Int) == 0) := by
    rw [Bool.eq_iff_iff, hu, beq_iff_eq]
    constructor
    ·
     rintro rfl; rfl
    ·
     intro h; exact List.length_eq_zero_iff.1 (by omega)
   rw [this]
 ·
  refine ⟨(false, 10), ?_, ?_⟩
  ·
   unfold mast_Under.f
   refine ev_pos hlb (Ev.bind (mvalid a (by omega)) ?_)
   by_cases ha : Ok a
   ·
    exact ev_pos ((okB_iff a).2 ha) (Ev.bind (mvalid b (by omega)) (ev_neg (fun e => h ⟨ha, (okB_iff b).1 e⟩) (Ev.now _)))
   ·
    exact ev_neg (fun e => ha ((okB_iff a).1 e)) (Ev.now _)
  ·
   have hw : Ev (fun k => dropperref01_Without.f k a b) ([], 10) := by
    unfold dropperref01_Without.f
    exact Ev.bind (together_no 3 h (by omega) (by omega)) (Ev.now _)
   exact Ev.bind hw (ev_pos rfl (Ev.now _))
end Go.Proofs.YtcmdcgghpkcchaaDoor.Lay

/- Near: program and reference answer the same. -/
namespace Go.Proofs.YtcmdcgghpkcchaaDoor.Lay
set_option linter.unusedVariables false
set_option linter.unusedSimpArgs false
open Go.RowKit Go.Proofs.YtcmdcgghpkcchaaDoor.XMast Go.Proofs.YtcmdcgghpkcchaaDoorW.PrintWords Go.Proofs.YtcmdcgghpkcchaaDoorW.PrintLast Go.Proofs.YtcmdcgghpkcchaaDoorW.PrintMore
theorem ab_self (m : Int) : ab m m = 0 := by unfold ab; rw [if_neg (Int.lt_irrefl _)]; omega
theorem ab_nonneg (m x : Int) : 0 ≤ ab m x := by unfold ab; split <;> omega
theorem ab_zero {m x : Int} (h : ab m x ≤ 0) : x = m := by unfold ab at h; split at h <;> omega
theorem near_rest {l : List St} (h : Norm l) {m : Int} {n : Nat} (h2 : ∀ a (ha : a < l.length), n ≤ a → m < l[a].f1) (best : Int) :
  (l.drop n).foldl (nstep m) best = if hn : n < l.length then (if l[n].f0 ≤ m then m else if l[n].f0 - m < ab m best then l[n].f0 else best) else best := by
 by_cases hn : n < l.length
 ·
  rw [dif_pos hn, drop_at hn, List.foldl_cons]
  have h3 := h2 n hn (Nat.le_refl _)
  have h4 := h.2 l[n] (List.getElem_mem hn)
  have mem : ∀ s ∈ l.drop (n + 1), l[n].f1 < s.f0 ∧ s.f0 < s.f1 := fun s hs => by
   obtain ⟨j, hj, rfl⟩ := List.mem_iff_getElem.1 hs
   rw [List.length_drop] at hj
   rw [List.getElem_drop]
   exact ⟨h.lt hn (by omega) (by omega), (h.2 _ (List.getElem_mem _)).2.1⟩
  by_cases hc : l[n].f0 ≤ m
  ·
   rw [if_pos hc]
   have e : nst m l[n] = m := by unfold nst mn mx; split <;> split <;> omega
   have e2 : nstep m best l[n] = m := by
    unfold nstep
    rw [e, ab_self]
    by_cases h5 : 0 < ab m best
    ·
     rw [if_pos h5]
    ·
     rw [if_neg h5]; exact ab_zero (by omega)
   rw [e2]
   exact fold_stay m _ m (fun s _ => by rw [ab_self]; exact ab_nonneg _ _)
  ·
   rw [if_neg hc]
   have e : nst m l[n] = l[n].f0 := by unfold nst mn mx; split <;> split <;> omega
   have e3 : ab m l[n].f0 = l[n].f0 - m := by unfold ab; rw [if_neg (by omega)]
   have e4 : ∀ s ∈ l.drop (n + 1), l[n].f0 - m ≤ ab m (nst m s) := fun s hs => by
    have h5 := mem s hs
    have e5 : nst m s = s.f0 := by unfold nst mn mx; split <;> split <;> omega
    rw [e5]
    unfold ab
    rw [if_neg (by omega)]
    omega
   by_cases h6 : l[n].f0 - m < ab m best
   ·
    rw [if_pos h6]
    have e2 : nstep m best l[n] = l[n].f0 := by unfold nstep; rw [e, e3, if_pos h6]
    rw [e2]
    exact fold_stay m _ _ (fun s hs => by rw [e3]; exact e4 s hs)
   ·
    rw [if_neg h6]
    have e2 : nstep m best l[n] = best := by unfold nstep; rw [e, e3, if_neg h6]
    rw [e2]
    exact fold_stay m _ _ (fun s hs => by have := e4 s hs; omega)
 ·
  rw [dif_neg hn, List.drop_of_length_le (by omega)]
  rfl
theorem near_front {l : List St} (h : Norm l) {m : Int} {n : Nat} (hn : n + 1 ≤ l.length) (h1 : ∀ a (ha : a < l.length), a < n + 1 → l[a].f1 ≤ m) : (l.take (n + 1)).foldl (nstep m) (l[0]'(by omega)).f0 = (l[n]'(by omega)).f1 - 1 := by
 have e := List.take_succ_eq_append_getElem (l := l) (i := n) (by omega)
 have h0 := h.2 (l[0]'(by omega)) (List.getElem_mem _)
 rw [e]
 refine fold_front m (l.take n) _ _ ?_ (fun u hu => ?_) ?_
 ·
  rw [← e]
  exact ⟨h.1.sublist (List.take_sublist _ _), fun s hs => h.2 s (List.mem_of_mem_take hs)⟩
 ·
  rw [← e] at hu
  obtain ⟨j, hj, rfl⟩ := List.mem_iff_getElem.1 hu
  rw [List.length_take] at hj
  rw [List.getElem_take]
  exact h1 j (by omega) (by omega)
 ·
  have e2 : (l.take n).headD (l[n]'(by omega)) = l[0]'(by omega) := by
   cases n with
   | zero => rfl
   | succ n =>
    rw [List.headD_eq_head?_getD, List.head?_take, if_neg (by omega), List.head?_eq_getElem?, List.getElem?_eq_getElem (by omega)]
    rfl
  rw [e2]
  omega
theorem Near_ok (l : List St) (h : Norm l ∧ l.length ≤ 60) (m : Int) (hm : 0 ≤ m ∧ m < 100000) (hl : 0 < l.length) : ∃ r, Ev (fun k => mast_Near.j0 k l m false) r ∧ r = (l.foldl (nstep m) l[0].f0, 0) := by
 obtain ⟨n, e, hn, h1, h2⟩ := find_ h.1 h.2 m
 have hc := cov_at h.1 h1 h2
 have e0 : rd_T46 l 0 = l[0] := rdSt l 0 hl
 refine ⟨_, Ev.step (fun k => by rw [mast_Near.j0]) (ev_neg (by simp) (ev_neg (by omega) (ev_val (has_val h.1 h.2 m) ?_))), rfl⟩
 have hsplit : l.foldl (nstep m) l[0].f0 = (l.drop n).foldl (nstep m) ((l.take n).foldl (nstep m) l[0].f0) := by rw [← List.foldl_append, List.take_append_drop]
 rw [hsplit, near_rest h.1 h2]
 have hcnt : cnt l m > 0 ↔ ∃ hn : n < l.length, l[n].f0 ≤ m := cnt_pos.trans hc
 by_cases hv : cnt l m > 0
 ·
  obtain ⟨h3, h4⟩ := hcnt.1 hv
  rw [dif_pos h3, if_pos h4]
  exact ev_pos (decide_eq_true hv) (Ev.now _)
 ·
  refine ev_neg (by simpa using hv) (ev_val e ?_)
  by_cases hn0 : n = 0
  ·
   subst hn0
   have h4 : ¬ l[0].f0 ≤ m := fun h => hv (hcnt.2 ⟨hl, h⟩)
   rw [dif_pos hl, if_neg h4, e0]
   refine ev_pos (by omega) (ev_pos (by omega) (ev_const ?_))
   have e5 : (if l[0].f0 - m < ab m ((l.take 0).foldl (nstep m) l[0].f0) then l[0].f0 else (l.take 0).foldl (nstep m) l[0].f0) = l[0].f0 := by
    rw [List.take_zero]
    show (if l[0].f0 - m < ab m l[0].f0 then l[0].f0 else l[0].f0) = _
    split <;> rfl
   rw [e5]
  ·
   obtain ⟨q, rfl⟩ : ∃ q, n = q + 1 := ⟨n - 1, by omega⟩
   have hf := near_front h.1 hn h1
   have hw : wrap64 (((q + 1 : Nat) : Int) - 1) = (q : Int) := by rw [wrap_id] <;> omega
   have hq := h.1.2 (l[q]'(by omega)) (List.getElem_mem _)
   have hqm := h1 q (by omega) (by omega)
   refine ev_neg (by omega) ?_
   rw [hf, hw, rdSt l q (by omega), wrap_id (x := (l[q]'(by omega)).f1 - 1) (by omega) (by omega)]
   by_cases hnl : q + 1 = l.length
   ·
    rw [dif_neg (by omega)]
    exact ev_pos (by omega) (ev_pos (by omega) (ev_pos (by omega) (Ev.now _)))
   ·
    have h3 : q + 1 < l.length := by omega
    have h4 : ¬ l[q + 1].f0 ≤ m := fun h => hv (hcnt.2 ⟨h3, h⟩)
    have hs := h.1.2 l[q + 1] (List.getElem_mem _)
    rw [dif_pos h3, if_neg h4, rdSt l (q + 1) h3, wrap_id (x := m - (l[q].f1 - 1)) (by omega) (by omega), wrap_id (x := l[q + 1].f0 - m) (by omega) (by omega)]
    have e6 : ab m (l[q].f1 - 1) = m - (l[q].f1 - 1) := by unfold ab; rw [if_pos (by omega)]
    rw [e6]
    refine ev_neg (by omega) (ev_pos (by omega) (ev_pos (by omega) (ev_pos (by omega) (ev_pos (by omega) ?_))))
    by_cases h7 : m - (l[q].f1 - 1) ≤ l[q + 1].f0 - m
    ·
     have e7 : (if l[q + 1].f0 - m < m - (l[q].f1 - 1) then l[q + 1].f0 else l[q].f1 - 1) = l[q].f1 - 1 := if_neg (by omega)
     rw [e7]; exact ev_pos h7 (Ev.now _)
    ·
     have e7 : (if l[q + 1].f0 - m < m - (l[q].f1 - 1) then l[q + 1].f0 else l[q].f1 - 1) = l[q + 1].f0 := if_pos (by omega)
     rw [e7]; exact ev_neg h7 (Ev.now _)
theorem Near_both (l : List St) (m : Int) (hl : l.length ≤ 9223372036854775806) : ∃ r, Ev (fun k => mast_Near.f k l m) r ∧ Ev (fun k => dropperref01_Near.f k l m) r := by
 unfold mast_Near.f dropperref01_Near.f
 by_cases h : okB l = true
 ·
  have h' := (okB_iff l).1 h
  by_cases h0 : m < 0
  ·
   exact ⟨(0, 2), Ev.bind (mvalid l hl) (ev_pos h (ev_pos h0 (Ev.step (fun k => by rw [mast_Near.j0]) (ev_pos rfl (Ev.now _))))), Ev.bind (rvalid l hl) (ev_pos h (ev_pos h0 (Ev.step (fun k => by rw [dropperref01_Near.j0]) (ev_pos rfl (Ev.now _)))))⟩
  ·
   by_cases h1 : m ≥ 100000
   ·
    exact ⟨(0, 2), Ev.bind (mvalid l hl) (ev_pos h (ev_neg h0 (Ev.step (fun k => by rw [mast_Near.j0]) (ev_pos (decide_eq_true h1) (Ev.now _))))), Ev.bind (rvalid l hl) (ev_pos h (ev_neg h0 (Ev.step (fun k => by rw [dropperref01_Near.j0]) (ev_pos (decide_eq_true h1) (Ev.now _)))))⟩
   ·
    by_cases h2 : l.length = 0
    ·
     exact ⟨(0, 5), Ev.bind (mvalid l hl) (ev_pos h (ev_neg h0 (Ev.step (fun k => by rw [mast_Near.j0]) (ev_neg (by simpa using h1) (ev_pos (by omega) (Ev.now _)))))), Ev.bind (rvalid l hl) (ev_pos h (ev_neg h0 (Ev.step (fun k => by rw [dropperref01_Near.j0]) (ev_neg (by simpa using h1) (ev_pos (by omega) (Ev.now _))))))⟩
    ·
     have e : decide (m ≥ 100000) = false := decide_eq_false h1
     have e0 : rd_T46 l 0 = l[0]'(by omega) := rdSt l 0 (by omega)
     have hs := h'.1.2 (l[0]'(by omega)) (List.getElem_mem _)
     obtain ⟨r, h3, h4⟩ := Near_ok l h' m (by omega) (by omega)
     rw [e]
     refine ⟨r, Ev.bind (mvalid l hl) (ev_pos h (ev_neg h0 h3)), Ev.bind (rvalid l hl) (ev_pos h (ev_neg h0 (Ev.step (fun k => by rw [dropperref01_Near.j0]) (ev_neg (by simp) (ev_neg (by omega) (ev_pos (by omega) ?_))))))⟩
     rw [e0, h4]
     exact near_r l h' m (by omega) l.length 0 _ (by omega) (by omega) (by omega)
 ·
  exact ⟨_, Ev.bind (mvalid l hl) (ev_neg h (Ev.now _)), Ev.bind (rvalid l hl) (ev_neg h (Ev.now _))⟩
end Go.Proofs.YtcmdcgghpkcchaaDoor.Lay
