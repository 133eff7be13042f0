-- Written by wip/pack.py of this repo: texts of this claim, put together.
import Derived.DataReads
import Derived.OpenShut
import Derived.ChangeArms
import Derived.Test.YtpdcpekjafcohaaRows
import Derived.WalkKit
import Derived.ProofKit
import Derived.ShutString
import Derived.ChangeOld
import Derived.Below
import Derived.SizedLaws
import Derived.Test.YtpdcpekjafcohaaKWearTotalsb
namespace Go.Proofs.Ytpdcpekjafcohaa.XWear
open Go.RowKit Go.Proofs.YtpdcpekjafcohaaW.PrintWords Go.Proofs.YtpdcpekjafcohaaW.PrintLast Go.Proofs.YtpdcpekjafcohaaW.PrintMore
attribute [local go_sem] max2_int min2_int max_two min_two max_three min_three max_four min_four   -- for this text's walks alone
set_option linter.unusedVariables false
set_option linter.unusedSimpArgs false
/-! ### slices_ContainsFunc_api_Run_api_Run: function 86 -/
theorem slices_ContainsFunc_api_Run_api_Run.rd_get (l : List S55) (x : Int) (h0 : 0 ≤ x) (h1 : x < (l.length : Int)) : ∃ h : x.toNat < l.length, rd_T55 l x = l[x.toNat] := by
 have h : x.toNat < l.length := by omega
 exact ⟨h, by simp [rd_T55, List.getD_eq_getElem?_getD, h]⟩
set_option maxHeartbeats 2000000 in
set_option maxRecDepth 100000 in
theorem slices_ContainsFunc_api_Run_api_Run.index (c : Nat) (cs : Array Value) (p : S55 → Bool) (A0 : Option Addr) (c0 : Nat) (l0 : List S55) (w : World) (hr0 : Kd.C k55 w A0 l0.length l0) (hc0 : l0.length ≤ c0)
  (he : ∀ (vs : Array Value) (W : World), (callFunc c vs).run Try.prog W = .ok (.enter c vs) W)
  (hf : ∀ (x : S55), x ∈ l0 → ∀ (W : World), Below w.heap.size w W → Calls Try.prog c (#[.agg #[.int .i64 x.f0, .int .i64 x.f1, .int .i64 x.f2]] ++ cs) W fun e w' => e = .returned (.bool (p x)) ∧ Below W.heap.size W w') :
  Calls Try.prog 91 #[.slice A0 l0.length c0, .func (.func c) #[] cs] w fun e w' => e = .returned (.int .i64 (Idx.idxFrom p l0)) ∧ Below w.heap.size w w' := by
 have hl : l0.length ≤ 9223372036854775807 := hr0.2.1
 have HR := Aside0.mk hr0
 have HF := Aside0.mk hf
 clear hr0 hf
 have hu := Try.underlying55
 go_enter Try.func91, Try.ntmps91
 go_wp2
 go_loopg [5, 8] l0.length (fun kq v5 v8 w' => ∃ x : Int, v8 = .int .i64 x ∧ Aside0 (0 ≤ x ∧ x ≤ l0.length ∧ ∀ j (h : j < l0.length), (j : Int) < x → p l0[j] = false) ∧ Aside0 (kq = l0.length - x.toNat) ∧ Aside0 (Below w.heap.size w w'))
 case atStart => exact ⟨0, rfl, ⟨by omega, by omega, fun _ _ h => by omega⟩, ⟨rfl⟩, ⟨Below.refl _ _⟩⟩
 case round =>
  obtain ⟨x, rfl, HI, HK, HB⟩ := hrel
  by_cases hlt : x < (l0.length : Int)
  ·
   have h1 : decide (x < (l0.length : Int)) = true := decide_eq_true hlt
   have p1 : 0 ≤ x := HI.out.1
   have HR0 := Aside0.mk (Kd.C_below HR.out HB.out)
   obtain ⟨ad, e1, hx0, hx1, hx2⟩ := at_T55 HR0.out x p1 hlt
   cases e1
   have HX := Aside0.mk (And.intro p1 hlt)
   have HM : Aside0 ((rd_T55 l0 x) ∈ l0) := ⟨by obtain ⟨h2, h3⟩ := slices_ContainsFunc_api_Run_api_Run.rd_get l0 x p1 hlt; rw [h3]; exact List.getElem_mem h2⟩
   replace p1 := eq_true p1
   replace hlt := eq_true hlt
   by_cases hp : p (rd_T55 l0 x) = true
   ·
    go_wp2_with (go_simp; with_reducible refine (HF.out (rd_T55 l0 x) HM.out _ HB.out).mono ?_; rintro e w' ⟨rfl, hb⟩; have HB2 := Aside0.mk hb; clear hb)
    go_ret
    obtain ⟨h2, h3⟩ := slices_ContainsFunc_api_Run_api_Run.rd_get l0 x HX.out.1 HX.out.2
    rw [h3] at hp
    refine ⟨?_, below_step HB.out HB2.out⟩
    rw [Idx.idxFrom_at h2 hp (fun j hj hl => HI.out.2.2 j hj (by omega)), Int.toNat_of_nonneg HX.out.1]; rfl
   ·
    replace hp := Bool.eq_false_iff.mpr hp
    go_wp2_with (go_simp; with_reducible refine (HF.out (rd_T55 l0 x) HM.out _ HB.out).mono ?_; rintro e w' ⟨rfl, hb⟩; have HB2 := Aside0.mk hb; clear hb)
    go_roundg (l0.length - (x + 1).toNat)
    case measure => have := HX.out; have := HK.out; omega
    case rel =>
     obtain ⟨h2, h3⟩ := slices_ContainsFunc_api_Run_api_Run.rd_get l0 x HX.out.1 HX.out.2
     have hw : wrap64 (x + 1) = x + 1 := by unfold wrap64; have := HX.out; omega
     refine ⟨x + 1, by first | rfl | rw [hw], ⟨by have := HX.out; omega, by have := HX.out; omega, fun j hj hl => ?_⟩, ⟨rfl⟩, ⟨below_step HB.out HB2.out⟩⟩
     by_cases hjx : (j : Int) < x
     ·
      exact HI.out.2.2 j hj hjx
     ·
      have : j = x.toNat := by omega
      subst this
      rw [← h3]; exact hp
  ·
   have h1 : decide (x < (l0.length : Int)) = false := decide_eq_false hlt
   go_wp2
   go_ret
   refine ⟨?_, HB.out⟩
   rw [Idx.idxFrom_none (fun j hj hl => HI.out.2.2 j hj (by omega))]; rfl
theorem slices_ContainsFunc_api_Run_api_Run.contains (c : Nat) (cs : Array Value) (p : S55 → Bool) (A0 : Option Addr) (c0 : Nat) (l0 : List S55) (w : World) (hr0 : Kd.C k55 w A0 l0.length l0) (hc0 : l0.length ≤ c0)
  (he : ∀ (vs : Array Value) (W : World), (callFunc c vs).run Try.prog W = .ok (.enter c vs) W)
  (hf : ∀ (x : S55), x ∈ l0 → ∀ (W : World), Below w.heap.size w W → Calls Try.prog c (#[.agg #[.int .i64 x.f0, .int .i64 x.f1, .int .i64 x.f2]] ++ cs) W fun e w' => e = .returned (.bool (p x)) ∧ Below W.heap.size W w') :
  Calls Try.prog 86 #[.slice A0 l0.length c0, .func (.func c) #[] cs] w fun e w' => e = .returned (.bool (l0.any p)) ∧ Below w.heap.size w w' := by
 have HR0 := Aside0.mk hr0
 have HF := Aside0.mk hf
 clear hr0 hf
 have hz := Aside0.mk (Idx.idx_ge p l0)
 go_enter Try.func86, Try.ntmps86
 go_wp2_with (go_at_call 91; refine (slices_ContainsFunc_api_Run_api_Run.index c cs p _ _ l0 _ HR0.out hc0 he HF.out).mono ?_; rintro e w' ⟨rfl, hb⟩; have HB := Aside0.mk hb; clear hb)
 go_ret
 exact ⟨by rw [← hz.out]; rfl, HB.out⟩

/-! ### wear_validRuns: function 74 -/
theorem wear_validRuns.within_calls (a b c : Int) (w : World) :
  Calls Try.prog 52 #[.int .i64 a, .int .i64 b, .int .i64 c] w fun e w' => e = .returned (.bool (decide (a ≤ b) && decide (b ≤ c))) ∧ Drawn0 w w' := by
 by_cases h1 : a ≤ b
 ·
  have h1' : decide (a ≤ b) = true := decide_eq_true h1
  go_enter Try.func52, Try.ntmps52
  go_wp2
  go_ret
  exact ⟨by simp [h1], Drawn0.refl _⟩
 ·
  have h1' : decide (a ≤ b) = false := decide_eq_false h1
  go_enter Try.func52, Try.ntmps52
  go_wp2
  go_ret
  exact ⟨by simp [h1], Drawn0.refl _⟩
def wear_validRuns.bad (x : S55) : Bool := !(decide (0 ≤ x.f0) && decide (x.f0 ≤ x.f1)) || decide (x.f1 ≥ 60) || !(decide (1 ≤ x.f2) && decide (x.f2 ≤ 1000000))
set_option maxHeartbeats 2000000 in
set_option maxRecDepth 100000 in
theorem wear_validRuns.clos (x : S55) (w : World) :
  Calls Try.prog 87 #[.agg #[.int .i64 x.f0, .int .i64 x.f1, .int .i64 x.f2]] w fun e w' => e = .returned (.bool (wear_validRuns.bad x)) ∧ Below w.heap.size w w' := by
 have hu := Try.underlying55
 have hB : ∀ o n, Aside0 (Below w.heap.size w ((w.alloc o).drewN n)) := fun o n => ⟨pw_below_drewN (below_alloc (Below.refl _ _) o) n⟩
 have hB0 : ∀ o, Aside0 (Below w.heap.size w (w.alloc o)) := fun o => ⟨below_alloc (Below.refl _ _) o⟩
 by_cases h0 : (decide (0 ≤ x.f0) && decide (x.f0 ≤ x.f1)) = true
 ·
  by_cases h1 : x.f1 ≥ 60
  ·
   have h1' : decide (x.f1 ≥ 60) = true := decide_eq_true h1
   clear h1
   have hE : Aside0 (wear_validRuns.bad x = true) := ⟨by simp only [wear_validRuns.bad, h0, h1']; rfl⟩
   have Hh0 := Aside0.mk h0
   clear h0
   go_enter Try.func87, Try.ntmps87
   go_wp2_with (first | (go_at_call 52; (with_reducible refine (wear_validRuns.within_calls 0 x.f0 x.f1 _).mono ?_); rintro e w' ⟨rfl, ⟨nd_, rfl⟩⟩; rw [Hh0.out]))
   go_ret
   exact ⟨by rw [hE.out]; rfl, by repeat (first | exact (hB _ _).out | exact (hB0 _).out | apply pw_below_drewN)⟩
  ·
   have h1' : decide (x.f1 ≥ 60) = false := decide_eq_false h1
   clear h1
   by_cases h2 : (decide (1 ≤ x.f2) && decide (x.f2 ≤ 1000000)) = true
   ·
    skip
    have hE : Aside0 (wear_validRuns.bad x = false) := ⟨by simp only [wear_validRuns.bad, h0, h1', h2]; rfl⟩
    have Hh0 := Aside0.mk h0
    clear h0
    have Hh2 := Aside0.mk h2
    clear h2
    go_enter Try.func87, Try.ntmps87
    go_wp2_with (first | (go_at_call 52; (with_reducible refine (wear_validRuns.within_calls 0 x.f0 x.f1 _).mono ?_); rintro e w' ⟨rfl, ⟨nd_, rfl⟩⟩; rw [Hh0.out]) | (go_at_call 52; (with_reducible refine (wear_validRuns.within_calls 1 x.f2 1000000 _).mono ?_); rintro e w' ⟨rfl, ⟨nd_, rfl⟩⟩; rw [Hh2.out]))
    go_ret
    exact ⟨by rw [hE.out]; rfl, by repeat (first | exact (hB _ _).out | exact (hB0 _).out | apply pw_below_drewN)⟩
   ·
    replace h2 := Bool.eq_false_iff.mpr h2
    have hE : Aside0 (wear_validRuns.bad x = true) := ⟨by simp only [wear_validRuns.bad, h0, h1', h2]; rfl⟩
    have Hh0 := Aside0.mk h0
    clear h0
    have Hh2 := Aside0.mk h2
    clear h2
    go_enter Try.func87, Try.ntmps87
    go_wp2_with (first | (go_at_call 52; (with_reducible refine (wear_validRuns.within_calls 0 x.f0 x.f1 _).mono ?_); rintro e w' ⟨rfl, ⟨nd_, rfl⟩⟩; rw [Hh0.out]) | (go_at_call 52; (with_reducible refine (wear_validRuns.within_calls 1 x.f2 1000000 _).mono ?_); rintro e w' ⟨rfl, ⟨nd_, rfl⟩⟩; rw [Hh2.out]))
    go_ret
    exact ⟨by rw [hE.out]; rfl, by repeat (first | exact (hB _ _).out | exact (hB0 _).out | apply pw_below_drewN)⟩
 ·
  replace h0 := Bool.eq_false_iff.mpr h0
  have hE : Aside0 (wear_validRuns.bad x = true) := ⟨by simp only [wear_validRuns.bad, h0]; rfl⟩
  have Hh0 := Aside0.mk h0
  clear h0
  go_enter Try.func87, Try.ntmps87
  go_wp2_with (first | (go_at_call 52; (with_reducible refine (wear_validRuns.within_calls 0 x.f0 x.f1 _).mono ?_); rintro e w' ⟨rfl, ⟨nd_, rfl⟩⟩; rw [Hh0.out]))
  go_ret
  exact ⟨by rw [hE.out]; rfl, by repeat (first | exact (hB _ _).out | exact (hB0 _).out | apply pw_below_drewN)⟩
theorem wear_validRuns.enter (vs : Array Value) (W : World) : (callFunc 87 vs).run Try.prog W = .ok (.enter 87 vs) W := enters_ Try.func87 (by kernel_rfl) (by kernel_rfl) vs W
def wear_validRuns.f (l0 : List S55) : Option Bool := some (decide ((l0.length : Int) ≤ 40) && !(l0.any wear_validRuns.bad))
set_option maxHeartbeats 4000000 in
set_option maxRecDepth 100000 in
theorem wear_validRuns.calls (A0 : Option Addr) (c0 : Nat) (l0 : List S55) (r : Bool) (w : World) (hr0 : Kd.C k55 w A0 l0.length l0) (hc0 : l0.length ≤ c0) (h : wear_validRuns.f l0 = some r) :
  Calls Try.prog 74 #[.slice A0 l0.length c0] w fun e w' => e = .returned (.bool r) ∧ Below w.heap.size w w' := by
 have hl1 : l0.length ≤ 9223372036854775807 := hr0.2.1
 have HR := Aside0.mk hr0
 clear hr0
 obtain rfl := Option.some.inj h
 clear h
 by_cases h2 : (l0.length : Int) ≤ 40
 ·
  rw [decide_eq_true h2, Bool.true_and]
  have k2 : decide ((l0.length : Int) ≤ 40) = true := decide_eq_true h2
  clear h2
  by_cases h3 : l0.any wear_validRuns.bad = true
  ·
   rw [h3]
   have H3 := Aside0.mk h3
   clear h3
   go_enter Try.func74, Try.ntmps74
   go_wp2_with (go_at_call 86; (refine (slices_ContainsFunc_api_Run_api_Run.contains 87 #[] wear_validRuns.bad A0 c0 l0 _ HR.out hc0 wear_validRuns.enter (fun x _ W hb => wear_validRuns.clos x W)).mono ?_); rintro e w' ⟨rfl, hb⟩; have HB := Aside0.mk hb; clear hb; rw [H3.out])
   go_ret
   exact ⟨rfl, HB.out⟩
  ·
   replace h3 := Bool.eq_false_iff.mpr h3
   rw [h3]
   have H3 := Aside0.mk h3
   clear h3
   go_enter Try.func74, Try.ntmps74
   go_wp2_with (go_at_call 86; (refine (slices_ContainsFunc_api_Run_api_Run.contains 87 #[] wear_validRuns.bad A0 c0 l0 _ HR.out hc0 wear_validRuns.enter (fun x _ W hb => wear_validRuns.clos x W)).mono ?_); rintro e w' ⟨rfl, hb⟩; have HB := Aside0.mk hb; clear hb; rw [H3.out])
   go_ret
   exact ⟨rfl, HB.out⟩
 ·
  rw [decide_eq_false h2, Bool.false_and]
  have k2 : decide ((l0.length : Int) ≤ 40) = false := decide_eq_false h2
  clear h2
  go_enter Try.func74, Try.ntmps74
  go_wp2
  go_ret
  exact ⟨rfl, Below.refl _ _⟩

/-! ### wear_totals: function 75 -/
def wear_totals.step (x : S55) (s : List Int) : Option (List Int) :=
 if 0 ≤ x.f0 ∧ x.f0 < 61 ∧ 0 ≤ wrap64 (x.f1 + 1) ∧ wrap64 (x.f1 + 1) < 61 then
  some ((s.set x.f0.toNat (wrap64 (rd s x.f0 + x.f2))).set (wrap64 (x.f1 + 1)).toNat (wrap64 (rd (s.set x.f0.toNat (wrap64 (rd s x.f0 + x.f2))) (wrap64 (x.f1 + 1)) - x.f2)))
 else none
def wear_totals.steps : List S55 → List Int → Option (List Int)
 | [], s => some s
 | x :: t, s => (wear_totals.step x s).bind fun s' => wear_totals.steps t s'
def wear_totals.sums : List Int → Int → List Int
 | [], _ => []
 | a :: t, s => wrap64 (s + a) :: wear_totals.sums t (wrap64 (s + a))
def wear_totals.f (l : List S55) : Option (List Int) := (wear_totals.steps l (List.replicate 61 0)).map fun s => wear_totals.sums (s.take 60) 0
def wear_totals.acc : List Int → Int → Int
 | [], z => z
 | a :: t, z => wear_totals.acc t (wrap64 (z + a))
theorem wear_totals.sums_len : ∀ (l : List Int) (z : Int), (wear_totals.sums l z).length = l.length
 | [], _ => rfl
 | a :: t, z => by rw [wear_totals.sums, List.length_cons, List.length_cons, wear_totals.sums_len]
theorem wear_totals.sums_snoc : ∀ (l : List Int) (z a : Int), wear_totals.sums (l ++ [a]) z = wear_totals.sums l z ++ [wrap64 (wear_totals.acc l z + a)]
 | [], _, _ => rfl
 | b :: t, z, a => by rw [List.cons_append, wear_totals.sums, wear_totals.sums_snoc, wear_totals.sums, wear_totals.acc]; rfl
theorem wear_totals.acc_snoc : ∀ (l : List Int) (z a : Int), wear_totals.acc (l ++ [a]) z = wrap64 (wear_totals.acc l z + a)
 | [], _, _ => rfl
 | b :: t, z, a => by rw [List.cons_append, wear_totals.acc, wear_totals.acc_snoc, wear_totals.acc]
theorem wear_totals.next (s : List Int) (i : Int) (h0 : 0 ≤ i) (h1 : i < 60) (h : i.toNat < s.length) :
  (wear_totals.sums (s.take i.toNat) 0 ++ List.replicate (60 - i.toNat) 0).set i.toNat (wrap64 (wear_totals.acc (s.take i.toNat) 0 + rd s i)) = wear_totals.sums (s.take (i + 1).toNat) 0 ++ List.replicate (60 - (i + 1).toNat) 0 ∧ wear_totals.acc (s.take (i + 1).toNat) 0 = wrap64 (wear_totals.acc (s.take i.toNat) 0 + rd s i) := by
 have e : (i + 1).toNat = i.toNat + 1 := by omega
 have er : rd s i = s[i.toNat] := by simp [rd, List.getD_eq_getElem?_getD, h]
 have et : s.take (i.toNat + 1) = s.take i.toNat ++ [rd s i] := by rw [er]; exact List.take_succ_eq_append_getElem h
 have el : (wear_totals.sums (s.take i.toNat) 0).length = i.toNat := by rw [wear_totals.sums_len, List.length_take]; omega
 rw [e, et, wear_totals.sums_snoc, wear_totals.acc_snoc]
 refine ⟨?_, rfl⟩
 rw [show 60 - i.toNat = (60 - (i.toNat + 1)) + 1 by omega, List.replicate_succ, List.set_append_right _ _ (by omega), el, Nat.sub_self, List.set_cons_zero, List.append_assoc]
 rfl
theorem wear_totals.rd_get (l : List S55) (x : Int) (h0 : 0 ≤ x) (h1 : x < (l.length : Int)) : ∃ h : x.toNat < l.length, rd_T55 l x = l[x.toNat] := by
 have h : x.toNat < l.length := by omega
 exact ⟨h, by simp [rd_T55, List.getD_eq_getElem?_getD, h]⟩
def wear_totals.ar (s : List Int) : Array Value := (s.map (Value.int .i64)).toArray
theorem wear_totals.step_len {x : S55} {s s' : List Int} (h : wear_totals.step x s = some s') : s'.length = s.length := by
 unfold wear_totals.step at h
 split at h
 ·
  cases h; simp
 ·
  cases h
theorem wear_totals.ar_size (s : List Int) : (wear_totals.ar s).size = s.length := by simp [wear_totals.ar]
theorem wear_totals.ar_one (s : List Int) : (wear_totals.ar s).all (·.oneCell') = true := by
 rw [Array.all_eq_true]
 intro i hi
 simp only [wear_totals.ar, List.getElem_toArray, List.getElem_map]
 rfl
theorem wear_totals.ar_get (s : List Int) (i : Int) (h0 : 0 ≤ i) (h1 : i < (s.length : Int)) : (wear_totals.ar s)[i.toNat]? = some (.int .i64 (rd s i)) := by
 have h : i.toNat < s.length := by omega
 simp [wear_totals.ar, rd, List.getD_eq_getElem?_getD, h]
theorem wear_totals.ar_set (s : List Int) (i : Nat) (v : Int) : (wear_totals.ar s).setIfInBounds i (.int .i64 v) = wear_totals.ar (s.set i v) := by
 simp [wear_totals.ar, List.map_set]
set_option maxHeartbeats 4000000 in
set_option maxRecDepth 100000 in
theorem wear_totals.calls (A0 : Option Addr) (c0 : Nat) (l0 : List S55) (r : List Int) (w : World) (hr0 : Kd.C k55 w A0 l0.length l0) (hc0 : l0.length ≤ c0) (h : wear_totals.f l0 = some r) :
  Calls Try.prog 75 #[.slice A0 l0.length c0] w fun e w' => e = .returned (.agg (wear_totals.ar r)) ∧ Below w.heap.size w w' := by
 have hl1 : l0.length ≤ 9223372036854775807 := hr0.2.1
 have hu := Try.underlying55
 have HR := Aside0.mk hr0
 clear hr0
 obtain ⟨sf, hsf, hr⟩ := Option.map_eq_some_iff.1 h
 have HS := Aside0.mk hsf
 have HRR := Aside0.mk hr
 clear h hsf hr
 have Z60 := Aside0.mk (show wear_totals.ar (List.replicate 60 0) = wear_totals.ar (List.replicate 60 0) from rfl)
 go_enter Try.func75, Try.ntmps75
 go_wp2
 obtain ⟨w0, hw0⟩ : ∃ w0, w0 = (w.alloc (.cells (wear_totals.ar (List.replicate 60 0)) 84)).alloc (.cells (wear_totals.ar (List.replicate 61 0)) 95) := ⟨_, rfl⟩
 have s0 : (w.alloc (.cells (wear_totals.ar (List.replicate 60 0)) 84)).heap.size = w.heap.size + 1 := Array.size_push ..
 have F2 : Aside0 (w0.heap[w.heap.size]? = some (.cells (wear_totals.ar (List.replicate 60 0)) 84 (0, 0))) := ⟨by rw [hw0]; exact blk_alloc (blk_new w _) _⟩
 have F3 : Aside0 (w0.heap[w.heap.size + 1]? = some (.cells (wear_totals.ar (List.replicate 61 0)) 95 (0, 0))) := ⟨by rw [hw0, ← s0]; exact blk_new _ _⟩
 have HB0 : Aside0 (Below w.heap.size w w0) := ⟨by rw [hw0]; exact below_alloc (below_alloc (Below.refl _ _) _) _⟩
 have hsz : Aside0 (w.heap.size + 2 ≤ w0.heap.size) := ⟨by
  have h2 : w0.heap.size = (w.alloc (.cells (wear_totals.ar (List.replicate 60 0)) 84)).heap.size + 1 := by rw [hw0]; exact Array.size_push ..
  omega⟩
 change Code.wp _ _ _ _ ((w.alloc (.cells (wear_totals.ar (List.replicate 60 0)) 84)).alloc (.cells (wear_totals.ar (List.replicate 61 0)) 95))
 rw [← hw0]
 clear hw0 s0
 go_loopg [5, 11] l0.length (fun kq v5 v11 w' => ∃ (x : Int) (s : List Int), v11 = .int .i64 x ∧ Aside0 (0 ≤ x ∧ x ≤ l0.length) ∧ Aside0 (kq = l0.length - x.toNat) ∧ Aside0 (wear_totals.steps (l0.drop x.toNat) s = some sf) ∧ Aside0 (s.length = 61) ∧ Aside0 (w'.heap[w.heap.size]? = some (.cells (wear_totals.ar (List.replicate 60 0)) 84 (0, 0))) ∧ Aside0 (w'.heap[w.heap.size + 1]? = some (.cells (wear_totals.ar s) 95 (0, 0))) ∧ Aside0 (Below w.heap.size w w') ∧ Aside0 (w.heap.size + 2 ≤ w'.heap.size))
 case atStart => exact ⟨0, List.replicate 61 0, rfl, ⟨by omega, by omega⟩, ⟨rfl⟩, HS, ⟨List.length_replicate⟩, F2, F3, HB0, hsz⟩
 case round =>
  obtain ⟨x, s, rfl, HI, HK, HST, HL, G2, G3, HB, HZ⟩ := hrel
  clear F2 F3 HB0 hsz HS
  by_cases hlt : x < (l0.length : Int)
  ·
   have h1 : decide (x < (l0.length : Int)) = true := decide_eq_true hlt
   have p1 : 0 ≤ x := HI.out.1
   have HR0 := Aside0.mk (Kd.C_below HR.out HB.out)
   obtain ⟨ad, e1, hx0, hx1, hx2⟩ := at_T55 HR0.out x p1 hlt
   cases e1
   obtain ⟨hxl, hX⟩ := wear_totals.rd_get l0 x p1 hlt
   have hdrop : l0.drop x.toNat = rd_T55 l0 x :: l0.drop (x.toNat + 1) := by rw [hX]; exact List.drop_eq_getElem_cons hxl
   have hst := HST.out
   rw [hdrop, wear_totals.steps] at hst
   obtain ⟨s', hs1, hs2⟩ := Option.bind_eq_some_iff.1 hst
   have HS2 := Aside0.mk hs2
   have HL2 := Aside0.mk ((wear_totals.step_len hs1).trans HL.out)
   have hcond : 0 ≤ (rd_T55 l0 x).f0 ∧ (rd_T55 l0 x).f0 < 61 ∧ 0 ≤ wrap64 ((rd_T55 l0 x).f1 + 1) ∧ wrap64 ((rd_T55 l0 x).f1 + 1) < 61 := by
    unfold wear_totals.step at hs1
    by_cases hc : 0 ≤ (rd_T55 l0 x).f0 ∧ (rd_T55 l0 x).f0 < 61 ∧ 0 ≤ wrap64 ((rd_T55 l0 x).f1 + 1) ∧ wrap64 ((rd_T55 l0 x).f1 + 1) < 61
    ·
     exact hc
    ·
     rw [if_neg hc] at hs1; cases hs1
   have hs' : Aside0 (s' = (s.set (rd_T55 l0 x).f0.toNat (wrap64 (rd s (rd_T55 l0 x).f0 + (rd_T55 l0 x).f2))).set (wrap64 ((rd_T55 l0 x).f1 + 1)).toNat (wrap64 (rd (s.set (rd_T55 l0 x).f0.toNat (wrap64 (rd s (rd_T55 l0 x).f0 + (rd_T55 l0 x).f2))) (wrap64 ((rd_T55 l0 x).f1 + 1)) - (rd_T55 l0 x).f2))) := ⟨by
    unfold wear_totals.step at hs1
    rw [if_pos hcond] at hs1
    exact (Option.some.inj hs1).symm⟩
   have HCO := Aside0.mk hcond
   clear hst hs1 hs2 hdrop hxl hX hcond
   go_wp2
   obtain ⟨w1, hw1⟩ : ∃ w1, w1 = wr.alloc (.cells #[.int .i64 (rd_T55 l0 x).f0, .int .i64 (rd_T55 l0 x).f1, .int .i64 (rd_T55 l0 x).f2] 55) := ⟨_, rfl⟩
   have B1 : Aside0 (w1.heap[wr.heap.size]? = some (.cells #[.int .i64 (rd_T55 l0 x).f0, .int .i64 (rd_T55 l0 x).f1, .int .i64 (rd_T55 l0 x).f2] 55 (0, 0))) := ⟨by rw [hw1]; exact blk_new _ _⟩
   replace G2 : Aside0 (w1.heap[w.heap.size]? = some (.cells (wear_totals.ar (List.replicate 60 0)) 84 (0, 0))) := ⟨by rw [hw1]; exact blk_alloc G2.out _⟩
   replace G3 : Aside0 (w1.heap[w.heap.size + 1]? = some (.cells (wear_totals.ar s) 95 (0, 0))) := ⟨by rw [hw1]; exact blk_alloc G3.out _⟩
   replace HB : Aside0 (Below w.heap.size w w1) := ⟨by rw [hw1]; exact below_alloc HB.out _⟩
   have HZ1 : Aside0 (w.heap.size + 2 ≤ wr.heap.size) := HZ
   replace HZ : Aside0 (w1.heap.size = wr.heap.size + 1) := ⟨by rw [hw1]; exact Array.size_push ..⟩
   rw [← hw1]
   clear hw1 hx0 hx1 hx2
   generalize rd_T55 l0 x = X at *
   have k0 := blkc B1.out 0 (.int .i64 X.f0) rfl
   have k1 := blkc B1.out 1 (.int .i64 X.f1) rfl
   have k2 := blkc B1.out 2 (.int .i64 X.f2) rfl
   have a0 := blkc G3.out X.f0.toNat (.int .i64 (rd s X.f0)) (wear_totals.ar_get s X.f0 HCO.out.1 (by have := HCO.out.2.1; have := HL.out; omega))
   have a1 := blk_frozen G3.out X.f0.toNat
   have b0 := eq_true HCO.out.1
   have b1 := eq_true HCO.out.2.1
   go_still_tail 8, (by kernel_rfl)
   change wpList _ _ _ _ _ w1.drew
   obtain ⟨w2, hw2⟩ : ∃ w2, w2 = w1.drew := ⟨_, rfl⟩
   rw [← hw2]
   have q_ := blk_drew B1.out
   rw [← hw2] at q_
   replace B1 := Aside0.mk q_
   clear q_
   have q_ := blk_drew G2.out
   rw [← hw2] at q_
   replace G2 := Aside0.mk q_
   clear q_
   have q_ := blk_drew G3.out
   rw [← hw2] at q_
   replace G3 := Aside0.mk q_
   clear q_
   have q_ := below_drew1 HB.out
   rw [← hw2] at q_
   replace HB := Aside0.mk q_
   clear q_
   replace HZ : Aside0 (w2.heap.size = wr.heap.size + 1) := ⟨by rw [hw2]; exact HZ.out⟩
   clear hw2 k0 k1 k2 a0 a1
   have a1 := blk_frozen G3.out X.f0.toNat
   have a0 := blkc G3.out X.f0.toNat (.int .i64 (rd s X.f0)) (wear_totals.ar_get s X.f0 HCO.out.1 (by have := HCO.out.2.1; have := HL.out; omega))
   go_wp2
   obtain ⟨w3, hw3⟩ : ∃ w3, w3 = w2.setCell ⟨w.heap.size + 1, X.f0.toNat, none⟩ (.int .i64 (wrap64 (rd s X.f0 + X.f2))) := ⟨_, rfl⟩
   obtain ⟨s2, hs2⟩ : ∃ s2, s2 = s.set X.f0.toNat (wrap64 (rd s X.f0 + X.f2)) := ⟨_, rfl⟩
   obtain ⟨j, hj⟩ : ∃ j, j = wrap64 (X.f1 + 1) := ⟨_, rfl⟩
   have hn1 : wr.heap.size ≠ w.heap.size + 1 := by have := HZ1.out; omega
   have hn2 : w.heap.size ≠ w.heap.size + 1 := by omega
   have q_ := blk_far B1.out hn1 (p := ⟨w.heap.size + 1, X.f0.toNat, none⟩) (.int .i64 (wrap64 (rd s X.f0 + X.f2)))
   rw [← hw3] at q_
   replace B1 := Aside0.mk q_
   clear q_
   have q_ := blk_far G2.out hn2 (p := ⟨w.heap.size + 1, X.f0.toNat, none⟩) (.int .i64 (wrap64 (rd s X.f0 + X.f2)))
   rw [← hw3] at q_
   replace G2 := Aside0.mk q_
   clear q_
   have q_ := blk_put G3.out X.f0.toNat (.int .i64 (wrap64 (rd s X.f0 + X.f2))) (wear_totals.ar_set s _ _)
   rw [← hw3, ← hs2] at q_
   replace G3 := Aside0.mk q_
   clear q_
   replace HB : Aside0 (Below w.heap.size w w3) := ⟨by rw [hw3]; exact below_set HB.out (by omega)⟩
   replace HZ : Aside0 (w3.heap.size = wr.heap.size + 1) := ⟨by rw [hw3]; simp [World.setCell, HZ.out]⟩
   have hq := hs'.out
   rw [← hs2, ← hj] at hq
   replace hs' := Aside0.mk hq
   have hc2 := HCO.out
   rw [← hj] at hc2
   have HC2 := Aside0.mk hc2
   have HLs : Aside0 (s2.length = 61) := ⟨by rw [hs2, List.length_set]; exact HL.out⟩
   have hji : IntKind.i64.wrap (X.f1 + 1) = j := by rw [hj]; exact i64_w _
   rw [← hw3]
   clear hw3 hq hc2 HCO a0 a1 b0 b1 hn1 hn2 hs2 hj HL
   have k0 := blkc B1.out 0 (.int .i64 X.f0) rfl
   have k1 := blkc B1.out 1 (.int .i64 X.f1) rfl
   have k2 := blkc B1.out 2 (.int .i64 X.f2) rfl
   have a0 := blkc G3.out j.toNat (.int .i64 (rd s2 j)) (wear_totals.ar_get s2 j HC2.out.2.2.1 (by have := HC2.out.2.2.2; have := HLs.out; omega))
   have a1 := blk_frozen G3.out j.toNat
   have b0 := eq_true HC2.out.2.2.1
   have b1 := eq_true HC2.out.2.2.2
   go_still_tail 9, (by kernel_rfl)
   change wpList _ _ _ _ _ w3.drew
   obtain ⟨w4, hw4⟩ : ∃ w4, w4 = w3.drew := ⟨_, rfl⟩
   rw [← hw4]
   have q_ := blk_drew B1.out
   rw [← hw4] at q_
   replace B1 := Aside0.mk q_
   clear q_
   have q_ := blk_drew G2.out
   rw [← hw4] at q_
   replace G2 := Aside0.mk q_
   clear q_
   have q_ := blk_drew G3.out
   rw [← hw4] at q_
   replace G3 := Aside0.mk q_
   clear q_
   have q_ := below_drew1 HB.out
   rw [← hw4] at q_
   replace HB := Aside0.mk q_
   clear q_
   replace HZ : Aside0 (w4.heap.size = wr.heap.size + 1) := ⟨by rw [hw4]; exact HZ.out⟩
   clear hw4 k0 k1 k2 a0 a1
   have a1 := blk_frozen G3.out j.toNat
   have a0 := blkc G3.out j.toNat (.int .i64 (rd s2 j)) (wear_totals.ar_get s2 j HC2.out.2.2.1 (by have := HC2.out.2.2.2; have := HLs.out; omega))
   go_wp2
   go_roundg (l0.length - (x + 1).toNat)
   case measure => have := HI.out; have := HK.out; omega
   case rel =>
    have hw : wrap64 (x + 1) = x + 1 := by unfold wrap64; have := HI.out; omega
    have hn2 : w.heap.size ≠ w.heap.size + 1 := by omega
    refine ⟨x + 1, s', by first | rfl | rw [hw], ⟨by have := HI.out; omega, by have := HI.out; omega⟩, ⟨rfl⟩, ⟨?_⟩, HL2, ⟨blk_far G2.out hn2 _⟩, ⟨?_⟩, ⟨below_set HB.out (by omega)⟩, ⟨by simp only [World.setCell, Array.size_modify]; have := HZ.out; have := HZ1.out; omega⟩⟩
    ·
     rw [show (x + 1).toNat = x.toNat + 1 by have := HI.out; omega]; exact HS2.out
    ·
     rw [hs'.out]; exact blk_put G3.out j.toNat _ (wear_totals.ar_set s2 _ _)
  ·
   have h1 : decide (x < (l0.length : Int)) = false := decide_eq_false hlt
   have hx : l0.drop x.toNat = [] := List.drop_eq_nil_of_le (by have := HI.out; omega)
   have hst := HST.out
   rw [hx, wear_totals.steps] at hst
   obtain rfl := Option.some.inj hst
   clear hst HST HK HI hx
   go_wp2
   obtain ⟨w5, hw5⟩ : ∃ w5, w5 = wr.alloc (.cells (wear_totals.ar (List.replicate 60 0)) 84) := ⟨_, rfl⟩
   have G6 : Aside0 (w5.heap[wr.heap.size]? = some (.cells (wear_totals.ar (wear_totals.sums (s.take 0) 0 ++ List.replicate (60 - 0) 0)) 84 (0, 0))) := ⟨by rw [hw5]; exact blk_new _ _⟩
   replace G2 : Aside0 (w5.heap[w.heap.size]? = some (.cells (wear_totals.ar (List.replicate 60 0)) 84 (0, 0))) := ⟨by rw [hw5]; exact blk_alloc G2.out _⟩
   replace G3 : Aside0 (w5.heap[w.heap.size + 1]? = some (.cells (wear_totals.ar s) 95 (0, 0))) := ⟨by rw [hw5]; exact blk_alloc G3.out _⟩
   replace HB : Aside0 (Below w.heap.size w w5) := ⟨by rw [hw5]; exact below_alloc HB.out _⟩
   change Code.wp _ _ _ _ (wr.alloc (.cells (wear_totals.ar (List.replicate 60 0)) 84))
   rw [← hw5]
   clear hw5
   have HZ6 : Aside0 (w.heap.size + 2 ≤ wr.heap.size) := HZ
   generalize wr.heap.size = g6 at *
   go_loopg [7, 8, 33] 60 (fun kq v7 v8 v33 w' => ∃ (i : Int), v33 = .int .i64 i ∧ v7 = .int .i64 (wear_totals.acc (s.take i.toNat) 0) ∧ Aside0 (0 ≤ i ∧ i ≤ 60) ∧ Aside0 (kq = 60 - i.toNat) ∧ Aside0 (w'.heap[g6]? = some (.cells (wear_totals.ar (wear_totals.sums (s.take i.toNat) 0 ++ List.replicate (60 - i.toNat) 0)) 84 (0, 0))) ∧ Aside0 (w'.heap[w.heap.size]? = some (.cells (wear_totals.ar (List.replicate 60 0)) 84 (0, 0))) ∧ Aside0 (w'.heap[w.heap.size + 1]? = some (.cells (wear_totals.ar s) 95 (0, 0))) ∧ Aside0 (Below w.heap.size w w'))
   case atStart => exact ⟨0, rfl, rfl, ⟨by omega, by omega⟩, ⟨rfl⟩, G6, G2, G3, HB⟩
   case round =>
    obtain ⟨i, rfl, rfl, HI, HK, G6, G2, G3, HB⟩ := hrel
    by_cases hlt : i < 60
    ·
     have p1 : 0 ≤ i := HI.out.1
     have hi61 : i.toNat < s.length := by have := HL.out; omega
     have hl60 : (wear_totals.sums (s.take i.toNat) 0 ++ List.replicate (60 - i.toNat) 0).length = 60 := by rw [List.length_append, wear_totals.sums_len, List.length_take, List.length_replicate]; omega
     have HL60 := Aside0.mk hl60
     have c3 := blkc G3.out i.toNat (.int .i64 (rd s i)) (wear_totals.ar_get s i p1 (by omega))
     have c6 := blkc G6.out i.toNat (.int .i64 (rd (wear_totals.sums (s.take i.toNat) 0 ++ List.replicate (60 - i.toNat) 0) i)) (wear_totals.ar_get _ i p1 (by omega))
     have z6 := blk_frozen G6.out i.toNat
     have H61 := Aside0.mk hi61
     have b0 := eq_true p1
     have b1 := eq_true hlt
     have b2 : (i < 61) = True := eq_true (by omega)
     clear hi61 hl60
     go_wp2
     obtain ⟨n1, n2⟩ := wear_totals.next s i HI.out.1 (of_eq_true b1) H61.out
     go_roundg (60 - (i + 1).toNat)
     case measure => have := HI.out; have := HK.out; omega
     case rel =>
      have hw : wrap64 (i + 1) = i + 1 := by unfold wrap64; have := HI.out; omega
      have hq := of_eq_true b1
      have hz1 := HZ6.out
      refine ⟨i + 1, by first | rfl | rw [hw], by rw [n2], ⟨by have := HI.out; omega, by have := HI.out; omega⟩, ⟨rfl⟩, ⟨?_⟩, ⟨blk_far G2.out (by show w.heap.size ≠ g6; omega) _⟩, ⟨blk_far G3.out (by show w.heap.size + 1 ≠ g6; omega) _⟩, ⟨below_set HB.out (by omega)⟩⟩
      rw [← n1]
      exact blk_put G6.out i.toNat _ (wear_totals.ar_set _ _ _)
    ·
     have h1 : decide (i < 60) = false := decide_eq_false hlt
     have hi : i = 60 := by have := HI.out; omega
     subst hi
     have hl60 : (wear_totals.sums (s.take (60 : Int).toNat) 0 ++ List.replicate (60 - (60 : Int).toNat) 0).length = 60 := by rw [List.length_append, wear_totals.sums_len, List.length_take, List.length_replicate]; have := HL.out; simp only [show (60 : Int).toNat = 60 from rfl]; omega
     have er : wear_totals.sums (s.take (60 : Int).toNat) 0 ++ List.replicate (60 - (60 : Int).toNat) 0 = r := by rw [← HRR.out]; simp only [show (60 : Int).toNat = 60 from rfl, Nat.sub_self, List.replicate_zero, List.append_nil]
     rw [er] at hl60
     have q_ := G6.out
     rw [er] at q_
     replace G6 := Aside0.mk q_
     have hz : (wear_totals.ar r).size = 60 := by rw [wear_totals.ar_size]; exact hl60
     have hi1 : Aside0 ((Try.prog.info? 84).map (·.size) = some (wear_totals.ar r).size) := ⟨by rw [hz]; kernel_rfl⟩
     have hi2 : Aside0 ((wear_totals.ar (List.replicate 60 0)).size = (wear_totals.ar r).size) := ⟨by rw [hz]; rfl⟩
     have hi3 : Aside0 ((wear_totals.ar r).all (·.oneCell') = true) := ⟨wear_totals.ar_one r⟩
     have hu84 := Aside0.mk Try.underlying84
     clear q_ er hl60 hz
     go_wp2_with (first | (with_reducible refine wpList_load_row rfl 84 (.tmp 6) rfl g6 rfl 84 (wear_totals.ar r) (0, 0) _ G6.out hu84.out rfl hi1.out ?_) | (with_reducible refine wpList_store_row rfl 84 (.tmp 2) (.tmp 45) rfl w.heap.size (wear_totals.ar r) rfl rfl 84 (wear_totals.ar (List.replicate 60 0)) G2.out hi1.out hi2.out hi3.out ?_))
     exact bodyPost_ret (results_cell_row rfl _ _ w.heap.size 84 (wear_totals.ar r) (0, 0) _ rfl (setRow_heap _ _ _ _ _ _ G2.out) hu84.out rfl hi1.out) rfl ⟨rfl, below_setRow HB.out (Nat.le_refl _) _⟩

/-! ### wear_Totals: function 40 -/
theorem wear_Totals.row60 {W : World} {base g : Nat} {r : List Int} (hr : r.length = 60) (h : W.heap[g]? = some (.cells (wear_totals.ar r) 84 (0, 0))) (hb : base ≤ g) :
  Kd.R (Kd.int .i64) 84 W base (fun _ => True) (.slice (some ⟨g, 0, none⟩) 60 60) r := by
 refine Kd.R_of_own ?_ (fun _ _ => trivial)
 rw [hr]
 refine ⟨by rw [encs_length, hr], .inr ⟨g, 60, wear_totals.ar r, rfl, hb, h, Nat.le_refl _, by decide, by rw [wear_totals.ar_size, hr], ?_⟩⟩
 have e : (wear_totals.ar r).toList = encs (Value.int .i64) r := by simp [wear_totals.ar, encs]
 rw [e, List.take_of_length_le]
 rw [encs_length, hr]; exact Nat.le_refl _

def wear_Totals.f (l0 : List S55) : Option (List Int × Int) := (wear_validRuns.f l0).bind fun v => if v = true then (wear_totals.f l0).bind fun r => some (r, 0) else some ([], 71)
theorem wear_Totals.len {l0 : List S55} {r : List Int} (h : wear_totals.f l0 = some r) : r.length = 60 := by
 obtain ⟨s, hs, rfl⟩ := Option.map_eq_some_iff.1 h
 have : ∀ (l : List S55) (s s' : List Int), wear_totals.steps l s = some s' → s'.length = s.length := by
  intro l
  induction l with
  | nil => intro s s' h; cases h; rfl
  | cons x t ih =>
   intro s s' h
   rw [wear_totals.steps] at h
   obtain ⟨s1, h1, h2⟩ := Option.bind_eq_some_iff.1 h
   rw [ih _ _ h2, wear_totals.step_len h1]
 rw [wear_totals.sums_len, List.length_take, this _ _ _ hs, List.length_replicate]; rfl
set_option maxHeartbeats 4000000 in
set_option maxRecDepth 100000 in
theorem wear_Totals.calls (A0 : Option Addr) (c0 : Nat) (l0 : List S55) (r1 : List Int) (r2 : Int) (w : World) (hr0 : Kd.C k55 w A0 l0.length l0) (hc0 : l0.length ≤ c0) (h : wear_Totals.f l0 = some (r1, r2)) :
  Calls Try.prog 40 #[.slice A0 l0.length c0] w fun e w' => ∃ v0_ : Value, e = .returned (.tuple #[v0_, .int .i64 r2]) ∧ Kd.R (Kd.int .i64) 84 w' w.heap.size (fun _ => True) v0_ r1 ∧ Below w.heap.size w w' := by
 have HR := Aside0.mk hr0
 clear hr0
 unfold wear_Totals.f at h
 obtain ⟨v, hv, h⟩ := Option.bind_eq_some_iff.1 h
 have HV := Aside0.mk hv
 clear hv
 cases v with
 | false =>
  obtain ⟨rfl, rfl⟩ := Prod.mk.inj (Option.some.inj h)
  clear h
  go_enter Try.func40, Try.ntmps40
  go_wp2_with (first | (go_at_call 74; (refine (wear_validRuns.calls _ _ l0 false _ HR.out hc0 HV.out).mono ?_); rintro e w1 ⟨rfl, hb⟩; have HB1 := Aside0.mk hb; clear hb))
  go_ret2
  exact ⟨_, rfl, Kd.R_nil _ _ _ _ _, HB1.out⟩
 | true =>
  obtain ⟨r, hr, h⟩ := Option.bind_eq_some_iff.1 h
  obtain ⟨rfl, rfl⟩ := Prod.mk.inj (Option.some.inj h)
  have HT := Aside0.mk hr
  have HL := Aside0.mk (wear_Totals.len hr)
  have hz : (wear_totals.ar r).size = 60 := by rw [wear_totals.ar_size]; exact HL.out
  have hi1 : Aside0 ((Try.prog.info? 84).map (·.size) = some (wear_totals.ar r).size) := ⟨by rw [hz]; kernel_rfl⟩
  have hi2 : Aside0 ((wear_totals.ar (List.replicate 60 0)).size = (wear_totals.ar r).size) := ⟨by rw [hz]; rfl⟩
  have hi3 : Aside0 ((wear_totals.ar r).all (·.oneCell') = true) := ⟨wear_totals.ar_one r⟩
  have hu84 := Try.underlying84
  clear h hr hz
  go_enter Try.func40, Try.ntmps40
  go_wp2_with (first | (go_at_call 74; (refine (wear_validRuns.calls _ _ l0 true _ HR.out hc0 HV.out).mono ?_); rintro e w1 ⟨rfl, hb⟩; have HB1 := Aside0.mk hb; clear hb) | (go_at_call 75; (refine (wear_totals.calls _ _ l0 r _ (Kd.C_below HR.out HB1.out) hc0 HT.out).mono ?_); rintro e w2 ⟨rfl, hb⟩; have HB2 := Aside0.mk (below_step HB1.out hb); clear hb) | (with_reducible refine wpList_store_row rfl 84 (.tmp 4) (.tmp 9) rfl w2.heap.size (wear_totals.ar r) rfl rfl 84 (wear_totals.ar (List.replicate 60 0)) (blk_new w2 _) hi1.out hi2.out hi3.out ?_))
  go_ret2
  have hle : w.heap.size ≤ w2.heap.size := HB2.out.size
  exact ⟨_, rfl, wear_Totals.row60 HL.out (setRow_heap _ _ _ _ _ _ (blk_new w2 _)) hle, below_setRow (below_alloc HB2.out _) hle _⟩

/-! ### dropperref07_Runs: function 39 -/
def dropperref07_Runs.l0 : Nat → List (S55) → Int → Option (Bool)
 | 0, _, _ => none
 | k + 1, x0, x3 => if x3 < (x0.length : Int) then (if 0 ≤ x3 then (if ((rd_T55 x0 x3).f0) < 0 then (some false) else (if ((rd_T55 x0 x3).f0) > ((rd_T55 x0 x3).f1) then (some false) else (if ((rd_T55 x0 x3).f1) ≥ 60 then (some false) else (if ((rd_T55 x0 x3).f2) < 1 then (some false) else (if ((rd_T55 x0 x3).f2) > 1000000 then (some false) else (dropperref07_Runs.l0 k x0 (wrap64 (x3 + 1)))))))) else (none)) else (some (decide ((x0.length : Int) ≤ 40)))
def dropperref07_Runs.f (k : Nat) (l0 : List (S55)) : Option (Bool) := dropperref07_Runs.l0 k l0 0
theorem dropperref07_Runs.mono_l : ∀ k, (∀ y0 y1, LeO (dropperref07_Runs.l0 k y0 y1) (dropperref07_Runs.l0 (k + 1) y0 y1))
 | 0 => fun _ _ r h => by simp [dropperref07_Runs.l0] at h
 | k + 1 => by
  have ih0 := dropperref07_Runs.mono_l k
  ·
   intro y0 y1
   unfold dropperref07_Runs.l0
   repeat' first
   | (with_reducible exact ih0 _ _)
   | (with_reducible exact LeO.refl _)
   | (with_reducible exact LeO.none _)
   | (with_reducible refine LeO.ite ?_ ?_)
   | (with_reducible refine LeO.bind ?_ (fun _ => ?_))
   | exact ih0 _ _
   | exact LeO.none _
   | refine LeO.ite ?_ ?_
   | refine LeO.bind ?_ (fun _ => ?_)
theorem dropperref07_Runs.mono : ∀ a0 k, LeO (dropperref07_Runs.f k a0) (dropperref07_Runs.f (k + 1) a0) := by
 intro a0 k
 have ih0 := dropperref07_Runs.mono_l k
 unfold dropperref07_Runs.f
 repeat' first
   | (with_reducible exact ih0 _ _)
   | (with_reducible exact LeO.refl _)
   | (with_reducible exact LeO.none _)
   | (with_reducible refine LeO.ite ?_ ?_)
   | (with_reducible refine LeO.bind ?_ (fun _ => ?_))
   | exact ih0 _ _
   | exact LeO.none _
   | refine LeO.ite ?_ ?_
   | refine LeO.bind ?_ (fun _ => ?_)
set_option maxHeartbeats 8000000 in
set_option maxRecDepth 100000 in
theorem dropperref07_Runs.calls (k : Nat) (A0 : Option Addr) (c0 : Nat) (l0 : List (S55)) (r : Bool) (w : World) (hr0 : Kd.C k55 w A0 l0.length l0) (hc0 : l0.length ≤ c0) (h : dropperref07_Runs.f k l0 = some r) :
  Calls Try.prog 39 #[.slice A0 l0.length c0] w fun e w' => e = .returned (.bool r) ∧ Below w.heap.size w w' := by
 have hu55 := Try.underlying55
 have HR0 := Aside0.mk hr0
 have HC0 := Aside0.mk hc0
 clear hr0 hc0
 have HB := Aside0.mk (Below.refl w.heap.size w)
 have H : (dropperref07_Runs.l0 k l0 0) = some r := h
 clear h
 have H' := Aside0.mk H
 clear H
 go_enter Try.func39, Try.ntmps39
 go_wp2
 go_loopg [3] k (fun kq v3 w' => ∃ (x3_1 : Int), v3 = .int .i64 x3_1 ∧ Aside0 (dropperref07_Runs.l0 kq l0 x3_1 = some r) ∧ Aside0 (kq ≤ k) ∧ Aside0 (Below w.heap.size w w'))
 case atStart => exact ⟨(0), rsz, H', ⟨Nat.le_refl _⟩, ⟨bel⟩⟩
 case round =>
  clear H'
  obtain ⟨x3_1, rfl, HA, HK1, HB⟩ := hrel
  cases gk with
  | zero => exact absurd HA.out (by simp [dropperref07_Runs.l0])
  | succ k1 =>
   have H := HA.out
   clear HA
   simp only [dropperref07_Runs.l0] at H
   by_cases c2 : x3_1 < (l0.length : Int)
   ·
    rw [if_pos c2] at H
    have c2b0 : decide (x3_1 < (l0.length : Int)) = true := decide_eq_true c2
    clear c2
    by_cases c3 : 0 ≤ x3_1
    ·
     rw [if_pos c3] at H
     have c3b0 : decide (0 ≤ x3_1) = true := decide_eq_true c3
     clear c3
     by_cases c4 : ((rd_T55 l0 x3_1).f0) < 0
     ·
      rw [if_pos c4] at H
      have c4b0 : decide (((rd_T55 l0 x3_1).f0) < 0) = true := decide_eq_true c4
      clear c4
      obtain rfl := Option.some.inj H
      have p555 : 0 ≤ (x3_1 : Int) := of_decide_eq_true asz
      have q555 : x3_1 < (l0.length : Int) := of_decide_eq_true asz
      obtain ⟨ad555, e555, hx555_0, hx555_1, hx555_2⟩ := at_T55 HR0.out x3_1 p555 q555
      cases e555
      replace hx555_0 := (HB.out.cell (World.block_lt_of_cell? w _ hx555_0)).trans hx555_0
      replace hx555_1 := (HB.out.cell (World.block_lt_of_cell? w _ hx555_1)).trans hx555_1
      replace hx555_2 := (HB.out.cell (World.block_lt_of_cell? w _ hx555_2)).trans hx555_2
      replace p555 := eq_true p555
      replace q555 := eq_true q555
      go_wp2_with (first | ((with_reducible refine gate_dst (N := 4) rfl ?_); refine box_event ?hg (N := 4) ?hd (cs := #[.int .i64 0, .int .i64 0, .int .i64 0]) (t := 55) ?hr ?_; (case hd => rfl); (case hg => rfl); (case hr => first | (go_simp; done) | (go_simp; rfl)); intro gb556 hg w5 hbox hb; have BK556 := Aside0.mk (hbox); have GW556 := bsz (w := w) hg; have GE556 := GW556; replace HB := Aside0.mk (below_step bel hb); clear hb hbox hg; have hcz6_0 := blkc BK556.out 0 (.int .i64 0) rfl; have hcz6_1 := blkc BK556.out 1 (.int .i64 0) rfl; have hcz6_2 := blkc BK556.out 2 (.int .i64 0) rfl; have hfz6_0 := blk_frozen BK556.out 0; have hfz6_1 := blk_frozen BK556.out 1; have hfz6_2 := blk_frozen BK556.out 2))
      go_ret
      exact ⟨ezz, bel⟩
     ·
      rw [if_neg c4] at H
      have c4b0 : decide (((rd_T55 l0 x3_1).f0) < 0) = false := decide_eq_false c4
      clear c4
      by_cases c7 : ((rd_T55 l0 x3_1).f0) > ((rd_T55 l0 x3_1).f1)
      ·
       rw [if_pos c7] at H
       have c7b0 : decide (((rd_T55 l0 x3_1).f1) < ((rd_T55 l0 x3_1).f0)) = true := decide_eq_true c7
       clear c7
       obtain rfl := Option.some.inj H
       have p555 : 0 ≤ (x3_1 : Int) := of_decide_eq_true asz
       have q555 : x3_1 < (l0.length : Int) := of_decide_eq_true asz
       obtain ⟨ad555, e555, hx555_0, hx555_1, hx555_2⟩ := at_T55 HR0.out x3_1 p555 q555
       cases e555
       replace hx555_0 := (HB.out.cell (World.block_lt_of_cell? w _ hx555_0)).trans hx555_0
       replace hx555_1 := (HB.out.cell (World.block_lt_of_cell? w _ hx555_1)).trans hx555_1
       replace hx555_2 := (HB.out.cell (World.block_lt_of_cell? w _ hx555_2)).trans hx555_2
       replace p555 := eq_true p555
       replace q555 := eq_true q555
       go_wp2_with (first | ((with_reducible refine gate_dst (N := 4) rfl ?_); refine box_event ?hg (N := 4) ?hd (cs := #[.int .i64 0, .int .i64 0, .int .i64 0]) (t := 55) ?hr ?_; (case hd => rfl); (case hg => rfl); (case hr => first | (go_simp; done) | (go_simp; rfl)); intro gb556 hg w8 hbox hb; have BK556 := Aside0.mk (hbox); have GW556 := bsz (w := w) hg; have GE556 := GW556; replace HB := Aside0.mk (below_step bel hb); clear hb hbox hg; have hcz9_0 := blkc BK556.out 0 (.int .i64 0) rfl; have hcz9_1 := blkc BK556.out 1 (.int .i64 0) rfl; have hcz9_2 := blkc BK556.out 2 (.int .i64 0) rfl; have hfz9_0 := blk_frozen BK556.out 0; have hfz9_1 := blk_frozen BK556.out 1; have hfz9_2 := blk_frozen BK556.out 2))
       go_ret
       exact ⟨ezz, bel⟩
      ·
       rw [if_neg c7] at H
       have c7b0 : decide (((rd_T55 l0 x3_1).f1) < ((rd_T55 l0 x3_1).f0)) = false := decide_eq_false c7
       clear c7
       by_cases c10 : ((rd_T55 l0 x3_1).f1) ≥ 60
       ·
        rw [if_pos c10] at H
        have c10b0 : decide (60 ≤ ((rd_T55 l0 x3_1).f1)) = true := decide_eq_true c10
        clear c10
        obtain rfl := Option.some.inj H
        have p555 : 0 ≤ (x3_1 : Int) := of_decide_eq_true asz
        have q555 : x3_1 < (l0.length : Int) := of_decide_eq_true asz
        obtain ⟨ad555, e555, hx555_0, hx555_1, hx555_2⟩ := at_T55 HR0.out x3_1 p555 q555
        cases e555
        replace hx555_0 := (HB.out.cell (World.block_lt_of_cell? w _ hx555_0)).trans hx555_0
        replace hx555_1 := (HB.out.cell (World.block_lt_of_cell? w _ hx555_1)).trans hx555_1
        replace hx555_2 := (HB.out.cell (World.block_lt_of_cell? w _ hx555_2)).trans hx555_2
        replace p555 := eq_true p555
        replace q555 := eq_true q555
        go_wp2_with (first | ((with_reducible refine gate_dst (N := 4) rfl ?_); refine box_event ?hg (N := 4) ?hd (cs := #[.int .i64 0, .int .i64 0, .int .i64 0]) (t := 55) ?hr ?_; (case hd => rfl); (case hg => rfl); (case hr => first | (go_simp; done) | (go_simp; rfl)); intro gb556 hg w11 hbox hb; have BK556 := Aside0.mk (hbox); have GW556 := bsz (w := w) hg; have GE556 := GW556; replace HB := Aside0.mk (below_step bel hb); clear hb hbox hg; have hcz12_0 := blkc BK556.out 0 (.int .i64 0) rfl; have hcz12_1 := blkc BK556.out 1 (.int .i64 0) rfl; have hcz12_2 := blkc BK556.out 2 (.int .i64 0) rfl; have hfz12_0 := blk_frozen BK556.out 0; have hfz12_1 := blk_frozen BK556.out 1; have hfz12_2 := blk_frozen BK556.out 2))
        go_ret
        exact ⟨ezz, bel⟩
       ·
        rw [if_neg c10] at H
        have c10b0 : decide (60 ≤ ((rd_T55 l0 x3_1).f1)) = false := decide_eq_false c10
        clear c10
        by_cases c13 : ((rd_T55 l0 x3_1).f2) < 1
        ·
         rw [if_pos c13] at H
         have c13b0 : decide (((rd_T55 l0 x3_1).f2) < 1) = true := decide_eq_true c13
         clear c13
         obtain rfl := Option.some.inj H
         have p555 : 0 ≤ (x3_1 : Int) := of_decide_eq_true asz
         have q555 : x3_1 < (l0.length : Int) := of_decide_eq_true asz
         obtain ⟨ad555, e555, hx555_0, hx555_1, hx555_2⟩ := at_T55 HR0.out x3_1 p555 q555
         cases e555
         replace hx555_0 := (HB.out.cell (World.block_lt_of_cell? w _ hx555_0)).trans hx555_0
         replace hx555_1 := (HB.out.cell (World.block_lt_of_cell? w _ hx555_1)).trans hx555_1
         replace hx555_2 := (HB.out.cell (World.block_lt_of_cell? w _ hx555_2)).trans hx555_2
         replace p555 := eq_true p555
         replace q555 := eq_true q555
         go_wp2_with (first | ((with_reducible refine gate_dst (N := 4) rfl ?_); refine box_event ?hg (N := 4) ?hd (cs := #[.int .i64 0, .int .i64 0, .int .i64 0]) (t := 55) ?hr ?_; (case hd => rfl); (case hg => rfl); (case hr => first | (go_simp; done) | (go_simp; rfl)); intro gb556 hg w14 hbox hb; have BK556 := Aside0.mk (hbox); have GW556 := bsz (w := w) hg; have GE556 := GW556; replace HB := Aside0.mk (below_step bel hb); clear hb hbox hg; have hcz15_0 := blkc BK556.out 0 (.int .i64 0) rfl; have hcz15_1 := blkc BK556.out 1 (.int .i64 0) rfl; have hcz15_2 := blkc BK556.out 2 (.int .i64 0) rfl; have hfz15_0 := blk_frozen BK556.out 0; have hfz15_1 := blk_frozen BK556.out 1; have hfz15_2 := blk_frozen BK556.out 2))
         go_ret
         exact ⟨ezz, bel⟩
        ·
         rw [if_neg c13] at H
         have c13b0 : decide (((rd_T55 l0 x3_1).f2) < 1) = false := decide_eq_false c13
         clear c13
         by_cases c16 : ((rd_T55 l0 x3_1).f2) > 1000000
         ·
          rw [if_pos c16] at H
          have c16b0 : decide (1000000 < ((rd_T55 l0 x3_1).f2)) = true := decide_eq_true c16
          clear c16
          obtain rfl := Option.some.inj H
          have p555 : 0 ≤ (x3_1 : Int) := of_decide_eq_true asz
          have q555 : x3_1 < (l0.length : Int) := of_decide_eq_true asz
          obtain ⟨ad555, e555, hx555_0, hx555_1, hx555_2⟩ := at_T55 HR0.out x3_1 p555 q555
          cases e555
          replace hx555_0 := (HB.out.cell (World.block_lt_of_cell? w _ hx555_0)).trans hx555_0
          replace hx555_1 := (HB.out.cell (World.block_lt_of_cell? w _ hx555_1)).trans hx555_1
          replace hx555_2 := (HB.out.cell (World.block_lt_of_cell? w _ hx555_2)).trans hx555_2
          replace p555 := eq_true p555
          replace q555 := eq_true q555
          go_wp2_with (first | ((with_reducible refine gate_dst (N := 4) rfl ?_); refine box_event ?hg (N := 4) ?hd (cs := #[.int .i64 0, .int .i64 0, .int .i64 0]) (t := 55) ?hr ?_; (case hd => rfl); (case hg => rfl); (case hr => first | (go_simp; done) | (go_simp; rfl)); intro gb556 hg w17 hbox hb; have BK556 := Aside0.mk (hbox); have GW556 := bsz (w := w) hg; have GE556 := GW556; replace HB := Aside0.mk (below_step bel hb); clear hb hbox hg; have hcz18_0 := blkc BK556.out 0 (.int .i64 0) rfl; have hcz18_1 := blkc BK556.out 1 (.int .i64 0) rfl; have hcz18_2 := blkc BK556.out 2 (.int .i64 0) rfl; have hfz18_0 := blk_frozen BK556.out 0; have hfz18_1 := blk_frozen BK556.out 1; have hfz18_2 := blk_frozen BK556.out 2))
          go_ret
          exact ⟨ezz, bel⟩
         ·
          rw [if_neg c16] at H
          have c16b0 : decide (1000000 < ((rd_T55 l0 x3_1).f2)) = false := decide_eq_false c16
          clear c16
          have H' := Aside0.mk H
          clear H
          have p555 : 0 ≤ (x3_1 : Int) := of_decide_eq_true asz
          have q555 : x3_1 < (l0.length : Int) := of_decide_eq_true asz
          obtain ⟨ad555, e555, hx555_0, hx555_1, hx555_2⟩ := at_T55 HR0.out x3_1 p555 q555
          cases e555
          replace hx555_0 := (HB.out.cell (World.block_lt_of_cell? w _ hx555_0)).trans hx555_0
          replace hx555_1 := (HB.out.cell (World.block_lt_of_cell? w _ hx555_1)).trans hx555_1
          replace hx555_2 := (HB.out.cell (World.block_lt_of_cell? w _ hx555_2)).trans hx555_2
          replace p555 := eq_true p555
          replace q555 := eq_true q555
          go_wp2_with (first | ((with_reducible refine gate_dst (N := 4) rfl ?_); refine box_event ?hg (N := 4) ?hd (cs := #[.int .i64 0, .int .i64 0, .int .i64 0]) (t := 55) ?hr ?_; (case hd => rfl); (case hg => rfl); (case hr => first | (go_simp; done) | (go_simp; rfl)); intro gb556 hg w19 hbox hb; have BK556 := Aside0.mk (hbox); have GW556 := bsz (w := w) hg; have GE556 := GW556; replace HB := Aside0.mk (below_step bel hb); clear hb hbox hg; have hcz20_0 := blkc BK556.out 0 (.int .i64 0) rfl; have hcz20_1 := blkc BK556.out 1 (.int .i64 0) rfl; have hcz20_2 := blkc BK556.out 2 (.int .i64 0) rfl; have hfz20_0 := blk_frozen BK556.out 0; have hfz20_1 := blk_frozen BK556.out 1; have hfz20_2 := blk_frozen BK556.out 2))
          go_roundg k1
          case measure => have := HK1.out; omega
          case rel => exact ⟨(wrap64 (x3_1 + 1)), rsz, H', ⟨by have := HK1.out; omega⟩, ⟨bel⟩⟩
    ·
     rw [if_neg c3] at H
     exact absurd H (by simp)
   ·
    rw [if_neg c2] at H
    have c2b0 : decide (x3_1 < (l0.length : Int)) = false := decide_eq_false c2
    clear c2
    obtain rfl := Option.some.inj H
    go_wp2
    go_ret
    exact ⟨ezz, bel⟩

/-! ### dropperref07_Totals: function 47 -/
mutual
def dropperref07_Totals.l0 : Nat → List (S55) → List Int → Int → Option (List Int × Int)
 | 0, _, _, _ => none
 | k + 1, x0, x4, x5 => if x5 < (x0.length : Int) then (if 0 ≤ x5 then (dropperref07_Totals.l1 k x0 x4 x5 ((rd_T55 x0 x5).f0)) else (none)) else (some (x4, 0))
def dropperref07_Totals.l1 : Nat → List (S55) → List Int → Int → Int → Option (List Int × Int)
 | 0, _, _, _, _ => none
 | k + 1, x0, x4, x5, x6 => if 0 ≤ x5 then (if x5 < (x0.length : Int) then (if x6 ≤ ((rd_T55 x0 x5).f1) then (if 0 ≤ x6 then (if x6 < (x4.length : Int) then (dropperref07_Totals.l1 k x0 (x4.set (x6 : Int).toNat (wrap64 ((rd x4 x6) + ((rd_T55 x0 x5).f2)))) x5 (wrap64 (x6 + 1))) else (none)) else (none)) else (dropperref07_Totals.l0 k x0 x4 (wrap64 (x5 + 1)))) else (none)) else (none)
end
def dropperref07_Totals.f (k : Nat) (l0 : List (S55)) : Option (List Int × Int) := (dropperref07_Runs.f k l0).bind fun t557 => (if t557 = true then (if 60 ≤ 35184372088832 then (dropperref07_Totals.l0 k l0 (List.replicate 60 0) 0) else (none)) else (some (([] : List Int), 71)))
theorem dropperref07_Totals.mono_l : ∀ k, (∀ y0 y1 y2, LeO (dropperref07_Totals.l0 k y0 y1 y2) (dropperref07_Totals.l0 (k + 1) y0 y1 y2)) ∧ (∀ y0 y1 y2 y3, LeO (dropperref07_Totals.l1 k y0 y1 y2 y3) (dropperref07_Totals.l1 (k + 1) y0 y1 y2 y3))
 | 0 => ⟨fun _ _ _ r h => by simp [dropperref07_Totals.l0] at h, fun _ _ _ _ r h => by simp [dropperref07_Totals.l1] at h⟩
 | k + 1 => by
  obtain ⟨ih0, ih1⟩ := dropperref07_Totals.mono_l k
  refine ⟨?_, ?_⟩
  ·
   intro y0 y1 y2
   unfold dropperref07_Totals.l0
   repeat' first
   | (with_reducible exact ih0 _ _ _)
   | (with_reducible exact ih1 _ _ _ _)
   | (with_reducible exact dropperref07_Runs.mono _ _)
   | (with_reducible exact LeO.refl _)
   | (with_reducible exact LeO.none _)
   | (with_reducible refine LeO.ite ?_ ?_)
   | (with_reducible refine LeO.bind ?_ (fun _ => ?_))
   | exact ih0 _ _ _
   | exact ih1 _ _ _ _
   | exact dropperref07_Runs.mono _ _
   | exact LeO.none _
   | refine LeO.ite ?_ ?_
   | refine LeO.bind ?_ (fun _ => ?_)
  ·
   intro y0 y1 y2 y3
   unfold dropperref07_Totals.l1
   repeat' first
   | (with_reducible exact ih0 _ _ _)
   | (with_reducible exact ih1 _ _ _ _)
   | (with_reducible exact dropperref07_Runs.mono _ _)
   | (with_reducible exact LeO.refl _)
   | (with_reducible exact LeO.none _)
   | (with_reducible refine LeO.ite ?_ ?_)
   | (with_reducible refine LeO.bind ?_ (fun _ => ?_))
   | exact ih0 _ _ _
   | exact ih1 _ _ _ _
   | exact dropperref07_Runs.mono _ _
   | exact LeO.none _
   | refine LeO.ite ?_ ?_
   | refine LeO.bind ?_ (fun _ => ?_)
theorem dropperref07_Totals.mono : ∀ a0 k, LeO (dropperref07_Totals.f k a0) (dropperref07_Totals.f (k + 1) a0) := by
 intro a0 k
 obtain ⟨ih0, ih1⟩ := dropperref07_Totals.mono_l k
 unfold dropperref07_Totals.f
 repeat' first
   | (with_reducible exact ih0 _ _ _)
   | (with_reducible exact ih1 _ _ _ _)
   | (with_reducible exact dropperref07_Runs.mono _ _)
   | (with_reducible exact LeO.refl _)
   | (with_reducible exact LeO.none _)
   | (with_reducible refine LeO.ite ?_ ?_)
   | (with_reducible refine LeO.bind ?_ (fun _ => ?_))
   | exact ih0 _ _ _
   | exact ih1 _ _ _ _
   | exact dropperref07_Runs.mono _ _
   | exact LeO.none _
   | refine LeO.ite ?_ ?_
   | refine LeO.bind ?_ (fun _ => ?_)
def dropperref07_Totals.T10 : Bool × List (List Nat × List Nat) := (true, [([], []), ([], []), ([0, 1], [0, 1]), ([2], [2]), ([], []), ([], []), ([4, 5], [4, 5]), ([6], [6]), ([7], [7]), ([3, 8], [3, 8]), ([0, 1, 0, 1, 2, 3, 4, 5, 6, 7, 8, 9], [0, 1]), ([10, 9, 0, 1, 2, 3, 4, 5, 6, 7, 8, 9], [9, 10])])
def dropperref07_Totals.B10 : List Nat := [0, 0, 3, 7, 0, 0, 48, 112, 240, 511, 1023, 2047]
theorem dropperref07_Totals.tab10 : rtab .any (opsOf Try.f47 10) = dropperref07_Totals.T10 := by kernel_rfl
theorem dropperref07_Totals.bits10 : waitsOk dropperref07_Totals.T10.2 dropperref07_Totals.B10 = true := by kernel_rfl
set_option maxHeartbeats 8000000 in
set_option maxRecDepth 100000 in
theorem dropperref07_Totals.calls (k : Nat) (A0 : Option Addr) (c0 : Nat) (l0 : List (S55)) (r1 : List Int) (r2 : Int) (w : World) (hr0 : Kd.C k55 w A0 l0.length l0) (hc0 : l0.length ≤ c0) (h : dropperref07_Totals.f k l0 = some (r1, r2)) :
  Calls Try.prog 47 #[.slice A0 l0.length c0] w fun e w' => ∃ v0_ : Value, e = .returned (.tuple #[v0_, .int .i64 r2]) ∧ Kd.R (Kd.int .i64) 3 w' w.heap.size (fun _ => True) v0_ r1 ∧ Below w.heap.size w w' := by
 have HR0 := Aside0.mk hr0
 have HC0 := Aside0.mk hc0
 clear hr0 hc0
 have HB := Aside0.mk (Below.refl w.heap.size w)
 have H : ((dropperref07_Runs.f k l0).bind fun t557 => (if t557 = true then (if 60 ≤ 35184372088832 then (dropperref07_Totals.l0 k l0 (List.replicate 60 0) 0) else (none)) else (some (([] : List Int), 71)))) = some (r1, r2) := h
 clear h
 replace H := Option.bind_eq_some_iff.mp H
 obtain ⟨t557, A20, H⟩ := H
 replace H : (if t557 = true then (if 60 ≤ 35184372088832 then (dropperref07_Totals.l0 k l0 (List.replicate 60 0) 0) else (none)) else (some (([] : List Int), 71))) = some (r1, r2) := H
 have A2 := Aside0.mk A20
 clear A20
 by_cases c3 : t557 = true
 ·
  subst c3
  have H1 : (if 60 ≤ 35184372088832 then (dropperref07_Totals.l0 k l0 (List.replicate 60 0) 0) else (none)) = some (r1, r2) := by rw [if_pos rfl] at H; exact H
  clear H
  have H := H1
  clear H1
  by_cases c4 : 60 ≤ 35184372088832
  ·
   rw [if_pos c4] at H
   have c4b0 := eq_true c4
   have c4b1 : decide (60 ≤ 35184372088832) = true := decide_eq_true c4
   clear c4
   obtain ⟨y558, hy558⟩ : ∃ y_ : List Int, y_ = (List.replicate 60 0) := ⟨_, rfl⟩
   replace H : (dropperref07_Totals.l0 k l0 y558 0) = some (r1, r2) := by first | (rw [hy558]; with_reducible exact H) | (have H2_ := (Option.bind_some _ _).symm.trans H; rw [hy558]; with_reducible exact H2_) | (have H2_ := (Option.bind_some _ _).symm.trans H; with_reducible exact H2_) | with_reducible exact H | (rw [hy558]; exact H) | exact H
   have Ny558 := Aside0.mk hy558
   clear hy558
   have H' := Aside0.mk H
   clear H
   go_enter Try.func47, Try.ntmps47
   go_wp2_with (first | ((with_reducible refine gate_callee (f := 39) rfl ?_); refine goesL_ (some 8) rfl rfl Try.func39 (by kernel_rfl) rfl #[.slice A0 l0.length c0] rfl mapz ?_; (with_reducible refine (dropperref07_Runs.calls k _ _ l0 true _ ?side1 ?side2 A2.out).mono ?_); (case side1 => repeat (first | exact HR0.out | (with_reducible refine Kd.C_alloc ?_ _) | (with_reducible refine Kd.C_drewN ?_ _) | (with_reducible refine Kd.C_drew ?_))); (case side2 => exact HC0.out); rintro e w5 ⟨rfl, hb⟩; refine ⟨_, rfl, ?_⟩; replace HB := Aside0.mk (below_step bel hb); (try clear hb); (try clear hb2); (try clear hk); (try clear hi)) | ((with_reducible refine gate_dst (N := 10) rfl ?_); refine Kd.R_make (Kd.int .i64) _ 3 rfl (N := 10) rfl 22 _ _ rfl 60 rfl rfl Try.underlying22 (.int .i64 0) 8 info3 rfl (by decide) (by omega) 0 (ok := fun _ => True) (okp := fun _ => True) rfl (fun _ hk => hk) trivial (by omega) (by omega) (Below.refl _ _) (Nat.le_refl _) ?_; intro v559 w6 ho7 hb hg_ hnew_; clear hg_ hnew_; (first | rw [← Ny558.out] at ho7 | (simp only [Int.reduceToNat] at ho7; rw [← Ny558.out] at ho7)); have HO560 := Aside0.mk (Kd.R_lower ho7 (below_size bel)); replace HB := Aside0.mk (below_step bel hb); clear hb ho7))
   go_loopg [5] k (fun kq v5 w' => ∃ (x4_1 : List Int) (x5_1 : Int), v5 = .int .i64 x5_1 ∧ Aside0 (dropperref07_Totals.l0 kq l0 x4_1 x5_1 = some (r1, r2)) ∧ Aside0 (kq ≤ k) ∧ Aside0 (Kd.R (Kd.int .i64) 3 w' w.heap.size (fun _ => True) v559 x4_1) ∧ Aside0 (Below w.heap.size w w'))
   case atStart => exact ⟨(y558), (0), rsz, H', ⟨Nat.le_refl _⟩, ⟨by (with_reducible repeat (first | apply Kd.R_alloc | apply Kd.R_drewN | apply Kd.R_drew)); exact HO560.out⟩, ⟨bel⟩⟩
   case round =>
    clear H'
    try clear p2
    try clear c3
    try clear c4
    try clear c4b0
    try clear c4b1
    obtain ⟨x4_1, x5_1, rfl, HA, HK1, HO_4, HB⟩ := hrel
    cases gk with
    | zero => exact absurd HA.out (by simp [dropperref07_Totals.l0])
    | succ k1 =>
     have H := HA.out
     clear HA
     simp only [dropperref07_Totals.l0] at H
     by_cases c8 : x5_1 < (l0.length : Int)
     ·
      rw [if_pos c8] at H
      have c8b0 : decide (x5_1 < (l0.length : Int)) = true := decide_eq_true c8
      clear c8
      by_cases c9 : 0 ≤ x5_1
      ·
       rw [if_pos c9] at H
       have c9b0 : decide (0 ≤ x5_1) = true := decide_eq_true c9
       clear c9
       have H' := Aside0.mk H
       clear H
       have p561 : 0 ≤ (x5_1 : Int) := of_decide_eq_true asz
       have q561 : x5_1 < (l0.length : Int) := of_decide_eq_true asz
       obtain ⟨ad561, e561, hx561_0, hx561_1, hx561_2⟩ := at_T55 HR0.out x5_1 p561 q561
       cases e561
       replace hx561_0 := (HB.out.cell (World.block_lt_of_cell? w _ hx561_0)).trans hx561_0
       replace hx561_1 := (HB.out.cell (World.block_lt_of_cell? w _ hx561_1)).trans hx561_1
       replace hx561_2 := (HB.out.cell (World.block_lt_of_cell? w _ hx561_2)).trans hx561_2
       replace p561 := eq_true p561
       replace q561 := eq_true q561
       go_wp2
       go_loopg [6] k1 (fun kq v6 w' => ∃ (x4_2 : List Int) (x6_2 : Int), v6 = .int .i64 x6_2 ∧ Aside0 (dropperref07_Totals.l1 kq l0 x4_2 x5_1 x6_2 = some (r1, r2)) ∧ Aside0 (kq ≤ k1) ∧ Aside0 (Kd.R (Kd.int .i64) 3 w' w.heap.size (fun _ => True) v559 x4_2) ∧ Aside0 (Below w.heap.size w w'))
       case atStart => exact ⟨(x4_1), ((rd_T55 l0 x5_1).f0), rsz, H', ⟨Nat.le_refl _⟩, ⟨by (with_reducible repeat (first | apply Kd.R_alloc | apply Kd.R_drewN | apply Kd.R_drew)); exact HO_4.out⟩, ⟨bel⟩⟩
       case round =>
        clear H'
        try clear p2
        try clear c3
        try clear c4
        try clear c4b0
        try clear c4b1
        try clear p5
        try clear q5
        try clear hx5
        try clear c8
        try clear c8b0
        try clear c9
        try clear c9b0
        try clear hx561_0
        try clear hx561_1
        try clear hx561_2
        try clear p2
        try clear p561
        try clear q561
        obtain ⟨x4_2, x6_2, rfl, HA, HK2, HO_4, HB⟩ := hrel
        cases gk with
        | zero => exact absurd HA.out (by simp [dropperref07_Totals.l1])
        | succ k2 =>
         have H := HA.out
         clear HA
         simp only [dropperref07_Totals.l1] at H
         by_cases c10 : 0 ≤ x5_1
         ·
          rw [if_pos c10] at H
          have c10b0 : decide (0 ≤ x5_1) = true := decide_eq_true c10
          clear c10
          by_cases c11 : x5_1 < (l0.length : Int)
          ·
           rw [if_pos c11] at H
           have c11b0 : decide (x5_1 < (l0.length : Int)) = true := decide_eq_true c11
           clear c11
           by_cases c12 : x6_2 ≤ ((rd_T55 l0 x5_1).f1)
           ·
            rw [if_pos c12] at H
            have c12b0 : decide (x6_2 ≤ ((rd_T55 l0 x5_1).f1)) = true := decide_eq_true c12
            clear c12
            by_cases c13 : 0 ≤ x6_2
            ·
             rw [if_pos c13] at H
             have c13b0 : decide (0 ≤ x6_2) = true := decide_eq_true c13
             clear c13
             by_cases c14 : x6_2 < (x4_2.length : Int)
             ·
              rw [if_pos c14] at H
              have c14b0 : decide (x6_2 < (x4_2.length : Int)) = true := decide_eq_true c14
              clear c14
              obtain ⟨y565, hy565⟩ : ∃ y_ : List Int, y_ = (x4_2.set (x6_2 : Int).toNat (wrap64 ((rd x4_2 x6_2) + ((rd_T55 l0 x5_1).f2)))) := ⟨_, rfl⟩
              replace H : (dropperref07_Totals.l1 k2 l0 y565 x5_1 (wrap64 (x6_2 + 1))) = some (r1, r2) := by first | (rw [hy565]; with_reducible exact H) | (have H2_ := (Option.bind_some _ _).symm.trans H; rw [hy565]; with_reducible exact H2_) | (have H2_ := (Option.bind_some _ _).symm.trans H; with_reducible exact H2_) | with_reducible exact H | (rw [hy565]; exact H) | exact H
              have Ny565 := Aside0.mk hy565
              clear hy565
              have H' := Aside0.mk H
              clear H
              have p562 : 0 ≤ (x5_1 : Int) := of_decide_eq_true asz
              have q562 : x5_1 < (l0.length : Int) := of_decide_eq_true asz
              obtain ⟨ad562, e562, hx562_0, hx562_1, hx562_2⟩ := at_T55 HR0.out x5_1 p562 q562
              obtain rfl : ad561 = ad562 := (by injection e562)
              replace hx562_0 := (HB.out.cell (World.block_lt_of_cell? w _ hx562_0)).trans hx562_0
              replace hx562_1 := (HB.out.cell (World.block_lt_of_cell? w _ hx562_1)).trans hx562_1
              replace hx562_2 := (HB.out.cell (World.block_lt_of_cell? w _ hx562_2)).trans hx562_2
              replace p562 := eq_true p562
              replace q562 := eq_true q562
              try go_wp2
              have n0_ := Aside0.mk (Kd.R_drew HO_4.out)
              have n1_ := Aside0.mk (below_drew1 HB.out)
              clear HO_4
              clear HB
              have HO_4 := n0_
              have HB := n1_
              clear n0_ n1_
              obtain ⟨Ao17, co17, eo17⟩ := Kd.R_slice HO_4.out
              (first | subst eo17 | (injection eo17 with f1_ f2_ f3_; have f4_ := f1_.symm; have f5_ := f3_.symm; clear f1_ f2_ f3_; subst f4_; subst f5_))
              have p563 : 0 ≤ (x6_2 : Int) := of_decide_eq_true asz
              have q563 : x6_2 < (x4_2.length : Int) := of_decide_eq_true asz
              obtain ⟨ad563, e563, hx563_0⟩ := Kd.at_int (Kd.R_reads' HO_4.out).2.2 x6_2 p563 q563
              cases e563
              replace p563 := eq_true p563
              replace q563 := eq_true q563
              have p564 : 0 ≤ (x5_1 : Int) := of_decide_eq_true asz
              have q564 : x5_1 < (l0.length : Int) := of_decide_eq_true asz
              obtain ⟨ad564, e564, hx564_0, hx564_1, hx564_2⟩ := at_T55 HR0.out x5_1 p564 q564
              have hw564_2 := hx564_2
              have hw564_1 := hx564_1
              have hw564_0 := hx564_0
              obtain rfl : ad561 = ad564 := (by injection e564)
              replace hx564_0 := (HB.out.cell (World.block_lt_of_cell? w _ hx564_0)).trans hx564_0
              replace hx564_1 := (HB.out.cell (World.block_lt_of_cell? w _ hx564_1)).trans hx564_1
              replace hx564_2 := (HB.out.cell (World.block_lt_of_cell? w _ hx564_2)).trans hx564_2
              replace p564 := eq_true p564
              replace q564 := eq_true q564
              have p15 : 0 ≤ (x6_2 : Int) := of_decide_eq_true asz
              have q15 : (x6_2 : Int) < ((x4_2.length : Int) : Int) := of_decide_eq_true asz
              obtain ⟨go15, co15, eo15, gb15, gl15, cl15, HG15⟩ := Kd.R_form HO_4.out (by omega)
              (first | cases eo15 | (injection eo15 with ea_ en_ ec_; (first | subst ea_ | (injection ea_ with ea_; subst ea_)); subst ec_; clear en_))
              have GB15 := Aside0.mk gb15
              have GG15 := Aside0.mk HG15
              clear gb15 gl15 HG15
              (first | simp only [add_plain] at hx563_0 | skip)
              obtain ⟨hx15_0, hf15_0⟩ := Kd.R_celln 0 HO_4.out (x6_2 : Int) p15 q15
              replace p15 := eq_true p15
              replace q15 := eq_true q15
              have HP18 := Kd.R_putn HO_4.out (x6_2 : Int) (wrap64 ((rd x4_2 x6_2) + ((rd_T55 l0 x5_1).f2)))
              rw [← Ny565.out] at HP18
              have HQ18 := Aside0.mk HP18
              clear HP18
              refine start_ (n := 12) (S := fun w' => w'.cell? ⟨go15, (x6_2).toNat, none⟩ = some (.int .i64 (rd x4_2 x6_2)) ∧ w'.cell? (ad561.add ((x5_1).toNat * 3)) = some (.int .i64 ((rd_T55 l0 x5_1).f0)) ∧ w'.cell? ⟨(ad561.add ((x5_1).toNat * 3)).block, (ad561.add ((x5_1).toNat * 3)).off + 1, none⟩ = some (.int .i64 ((rd_T55 l0 x5_1).f1)) ∧ w'.cell? ⟨(ad561.add ((x5_1).toNat * 3)).block, (ad561.add ((x5_1).toNat * 3)).off + 2, none⟩ = some (.int .i64 ((rd_T55 l0 x5_1).f2))) (ds := [11]) #[false, false, false, false, false, false, false, false, false, false, false, false] (by kernel_rfl) rfl rfl ⟨hx563_0, ((HB.out.cell (World.block_lt_of_cell? w _ hw564_0)).trans hw564_0), ((HB.out.cell (World.block_lt_of_cell? w _ hw564_1)).trans hw564_1), ((HB.out.cell (World.block_lt_of_cell? w _ hw564_2)).trans hw564_2)⟩ (fun hHeld => ?_); refine with_tabW dropperref07_Totals.tab10 dropperref07_Totals.bits10 (fun HT_ HW_ => ?_)
              generalize wr.drew = w16 at HO_4 HB GG15 HQ18 hf15_0 hx15_0 hx563_0 hx564_0 hx564_1 hx564_2 hHeld ⊢
              refine pst (i := 0) (N := some 31) (bz 12 1) (any_of HT_.out (by kernel_rfl)) ?_
              refine pst (i := 1) (N := some 32) (bz 12 3) (any_of HT_.out (by kernel_rfl)) ?_
              refine pst (i := 2) (N := some 33) (bz 12 7) (any_of HT_.out (by kernel_rfl)) ?_
              refine pst (i := 4) (N := some 35) (bz 12 23) (any_of HT_.out (by kernel_rfl)) ?_
              refine pst (i := 5) (N := some 36) (bz 12 55) (any_of HT_.out (by kernel_rfl)) ?_
              refine pst (i := 6) (N := some 37) (bz 12 119) (any_of HT_.out (by kernel_rfl)) ?_
              refine pst (i := 7) (N := some 38) (bz 12 247) (any_of HT_.out (by kernel_rfl)) ?_
              refine tst4 (i := 3) (N := some 34) (bz 12 255) (take_ofW HT_.out HW_.out (by kernel_rfl)) hHeld ?_
              refine tst4 (i := 8) (N := some 39) (bz 12 511) (take_ofW HT_.out HW_.out (by kernel_rfl)) hHeld ?_
              refine pst (i := 9) (N := some 40) (bz 12 1023) (any_of HT_.out (by kernel_rfl)) ?_
              refine pst (i := 10) (N := some 41) (bz 12 2047) (any_of HT_.out (by kernel_rfl)) ?_
              refine last_ (i := 11) (N := none) #[true, true, true, true, true, true, true, true, true, true, true, true] rfl rfl (one_of HT_.out (by kernel_rfl)) (by decide) (fun K hK => ?_)
              refine skip_ (w1 := ?_) (by rfl) rfl ?_ ?_
              rotate_left
              ·
               go_simp
               rfl
              refine hK.out _ _ ?_
              clear hK K
              refine done_ (done_of HT_.out (by kernel_rfl)) ?_
              try go_wp2
              go_roundg k2
              case measure => have := HK1.out; have := HK2.out; omega
              case rel => exact ⟨(y565), (wrap64 (x6_2 + 1)), rsz, H', ⟨by have := HK1.out; have := HK2.out; omega⟩, ⟨by (with_reducible repeat (first | apply Kd.R_alloc | apply Kd.R_drewN | apply Kd.R_drew)); exact HQ18.out⟩, ⟨by repeat (first | (with_reducible first | exact HB.out | apply below_alloc | apply pw_below_drewN | apply below_drew1 | refine below_set ?_ GB15.out) | exact HB.out)⟩⟩
             ·
              rw [if_neg c14] at H
              exact absurd H (by simp)
            ·
             rw [if_neg c13] at H
             exact absurd H (by simp)
           ·
            rw [if_neg c12] at H
            have c12b0 : decide (x6_2 ≤ ((rd_T55 l0 x5_1).f1)) = false := decide_eq_false c12
            clear c12
            have H' := Aside0.mk H
            clear H
            have p562 : 0 ≤ (x5_1 : Int) := of_decide_eq_true asz
            have q562 : x5_1 < (l0.length : Int) := of_decide_eq_true asz
            obtain ⟨ad562, e562, hx562_0, hx562_1, hx562_2⟩ := at_T55 HR0.out x5_1 p562 q562
            obtain rfl : ad561 = ad562 := (by injection e562)
            replace hx562_0 := (HB.out.cell (World.block_lt_of_cell? w _ hx562_0)).trans hx562_0
            replace hx562_1 := (HB.out.cell (World.block_lt_of_cell? w _ hx562_1)).trans hx562_1
            replace hx562_2 := (HB.out.cell (World.block_lt_of_cell? w _ hx562_2)).trans hx562_2
            replace p562 := eq_true p562
            replace q562 := eq_true q562
            go_wp2
            go_roundg k2
            case measure => have := HK1.out; have := HK2.out; omega
            case rel => exact ⟨(x4_2), (wrap64 (x5_1 + 1)), rsz, H', ⟨by have := HK1.out; have := HK2.out; omega⟩, ⟨by (with_reducible repeat (first | apply Kd.R_alloc | apply Kd.R_drewN | apply Kd.R_drew)); exact HO_4.out⟩, ⟨bel⟩⟩
          ·
           rw [if_neg c11] at H
           exact absurd H (by simp)
         ·
          rw [if_neg c10] at H
          exact absurd H (by simp)
      ·
       rw [if_neg c9] at H
       exact absurd H (by simp)
     ·
      rw [if_neg c8] at H
      have c8b0 : decide (x5_1 < (l0.length : Int)) = false := decide_eq_false c8
      clear c8
      simp only [Option.some.injEq, Prod.mk.injEq] at H
      obtain ⟨rfl, rfl⟩ := H
      go_wp2
      go_ret2
      exact ⟨_, ezz, by (with_reducible repeat (first | apply Kd.R_alloc | apply Kd.R_drewN | apply Kd.R_drew)); exact HO_4.out, bel⟩
  ·
   rw [if_neg c4] at H
   exact absurd H (by simp)
 ·
  replace c3 := Bool.eq_false_iff.mpr c3
  subst c3
  have H1 : (some (([] : List Int), 71)) = some (r1, r2) := by rw [if_neg (show ¬ (false = true) by decide)] at H; exact H
  clear H
  have H := H1
  clear H1
  simp only [Option.some.injEq, Prod.mk.injEq] at H
  obtain ⟨rfl, rfl⟩ := H
  go_enter Try.func47, Try.ntmps47
  go_wp2_with (first | ((with_reducible refine gate_callee (f := 39) rfl ?_); refine goesL_ (some 8) rfl rfl Try.func39 (by kernel_rfl) rfl #[.slice A0 l0.length c0] rfl mapz ?_; (with_reducible refine (dropperref07_Runs.calls k _ _ l0 false _ ?side1 ?side2 A2.out).mono ?_); (case side1 => repeat (first | exact HR0.out | (with_reducible refine Kd.C_alloc ?_ _) | (with_reducible refine Kd.C_drewN ?_ _) | (with_reducible refine Kd.C_drew ?_))); (case side2 => exact HC0.out); rintro e w19 ⟨rfl, hb⟩; refine ⟨_, rfl, ?_⟩; replace HB := Aside0.mk (below_step bel hb); (try clear hb); (try clear hb2); (try clear hk); (try clear hi)))
  go_ret2
  exact ⟨_, ezz, by first | exact Kd.R_nil _ _ _ _ _ | exact Kd.N_nil _ _ _ _ _ | exact Kd.V_nil _ _ _ _ _ | exact Kd.Q_nil _ _ _ _ _ | exact Kd.S_nil _ _ _ _ _, bel⟩

/-! ### wear_Worst: function 48 -/

def wear_Worst.go : List Int → Int → Int → Int → Int × Int
 | [], _, s, p => (s, p)
 | n :: t, i, s, p => if n > p then wear_Worst.go t (i + 1) i n else wear_Worst.go t (i + 1) s p
def wear_Worst.f (l0 : List S55) : Option (Int × Int × Int) := (wear_validRuns.f l0).bind fun v => if v = true then (wear_totals.f l0).bind fun r => some ((wear_Worst.go r 0 0 0).1, (wear_Worst.go r 0 0 0).2, 0) else some (0, 0, 71)
set_option maxHeartbeats 4000000 in
set_option maxRecDepth 100000 in
theorem wear_Worst.calls (A0 : Option Addr) (c0 : Nat) (l0 : List S55) (r1 r2 r3 : Int) (w : World) (hr0 : Kd.C k55 w A0 l0.length l0) (hc0 : l0.length ≤ c0) (h : wear_Worst.f l0 = some (r1, r2, r3)) :
  Calls Try.prog 48 #[.slice A0 l0.length c0] w fun e w' => e = .returned (.tuple #[.int .i64 r1, .int .i64 r2, .int .i64 r3]) ∧ Below w.heap.size w w' := by
 have HR := Aside0.mk hr0
 clear hr0
 unfold wear_Worst.f at h
 obtain ⟨v, hv, h⟩ := Option.bind_eq_some_iff.1 h
 have HV := Aside0.mk hv
 clear hv
 cases v with
 | false =>
  obtain ⟨rfl, h2⟩ := Prod.mk.inj (Option.some.inj h)
  obtain ⟨rfl, rfl⟩ := Prod.mk.inj h2
  clear h h2
  go_enter Try.func48, Try.ntmps48
  go_wp2_with (first | (go_at_call 74; (refine (wear_validRuns.calls _ _ l0 false _ HR.out hc0 HV.out).mono ?_); rintro e w1 ⟨rfl, hb⟩; have HB1 := Aside0.mk hb; clear hb))
  go_ret3
  exact ⟨rfl, HB1.out⟩
 | true =>
  obtain ⟨r, hr, h⟩ := Option.bind_eq_some_iff.1 h
  obtain ⟨rfl, h2⟩ := Prod.mk.inj (Option.some.inj h)
  obtain ⟨rfl, rfl⟩ := Prod.mk.inj h2
  have HT := Aside0.mk hr
  have HL := Aside0.mk (wear_Totals.len hr)
  have hu84 := Try.underlying84
  have hix : Aside0 (∀ (W : World) (i : Int), 0 ≤ i → i < 60 → (Instr.index 84 (.agg (wear_totals.ar r)) (.int .i64 i)).run Try.prog W = .ok (.int .i64 (rd r i)) W) := ⟨fun W i h0 h1 => by
   have hg := wear_totals.ar_get r i h0 (by rw [HL.out]; exact h1)
   simp [Instr.index, run_underlying hu84, asIntOf, h0, h1, hg, go_sem]⟩
  clear h h2 hr
  go_enter Try.func48, Try.ntmps48
  go_wp2_with (first | (go_at_call 74; (refine (wear_validRuns.calls _ _ l0 true _ HR.out hc0 HV.out).mono ?_); rintro e w1 ⟨rfl, hb⟩; have HB1 := Aside0.mk hb; clear hb) | (go_at_call 75; (refine (wear_totals.calls _ _ l0 r _ (Kd.C_below HR.out HB1.out) hc0 HT.out).mono ?_); rintro e w2 ⟨rfl, hb⟩; have HB2 := Aside0.mk (below_step HB1.out hb); clear hb))
  go_loopg [2, 3, 5, 6, 12] 60 (fun kq v2 v3 v5 v6 v12 w' => ∃ (i s p : Int), v12 = .int .i64 i ∧ v2 = .int .i64 s ∧ v3 = .int .i64 p ∧ Aside0 (0 ≤ i ∧ i ≤ 60) ∧ Aside0 (kq = 60 - i.toNat) ∧ Aside0 (wear_Worst.go (r.drop i.toNat) i s p = wear_Worst.go r 0 0 0) ∧ w' = w2)
  case atStart => exact ⟨0, 0, 0, rfl, rfl, rfl, ⟨by omega, by omega⟩, ⟨rfl⟩, ⟨rfl⟩, rfl⟩
  case round =>
   obtain ⟨i, s, p, rfl, rfl, rfl, HI, HK, HG, rfl⟩ := hrel
   by_cases hlt : i < 60
   ·
    have b1 : decide (i < 60) = true := decide_eq_true hlt
    have p1 : 0 ≤ i := HI.out.1
    have hxl : i.toNat < r.length := by have := HL.out; omega
    have hd : r.drop i.toNat = rd r i :: r.drop (i.toNat + 1) := by
     rw [show rd r i = r[i.toNat] by simp [rd, List.getD_eq_getElem?_getD, hxl]]; exact List.drop_eq_getElem_cons hxl
    have hx1 := fun W => hix.out W i p1 hlt
    have hw : wrap64 (i + 1) = i + 1 := by unfold wrap64; omega
    have e : (i + 1).toNat = i.toNat + 1 := by omega
    by_cases hq : rd r i > p
    ·
     have b2 : decide (rd r i > p) = true := decide_eq_true hq
     have HG2 : Aside0 (wear_Worst.go (r.drop (i + 1).toNat) (i + 1) i (rd r i) = wear_Worst.go r 0 0 0) := ⟨by rw [← HG.out, hd, wear_Worst.go, if_pos hq, e]⟩
     clear hd hxl hq HG
     go_wp2
     go_roundg (60 - (i + 1).toNat)
     case measure => have := HI.out; have := HK.out; omega
     case rel => exact ⟨i + 1, i, rd r i, by first | rfl | rw [hw], rfl, rfl, ⟨by have := HI.out; omega, by have := HI.out; omega⟩, ⟨rfl⟩, HG2, rfl⟩
    ·
     have b2 : decide (rd r i > p) = false := decide_eq_false hq
     have HG2 : Aside0 (wear_Worst.go (r.drop (i + 1).toNat) (i + 1) s p = wear_Worst.go r 0 0 0) := ⟨by rw [← HG.out, hd, wear_Worst.go, if_neg hq, e]⟩
     clear hd hxl hq HG
     go_wp2
     go_roundg (60 - (i + 1).toNat)
     case measure => have := HI.out; have := HK.out; omega
     case rel => exact ⟨i + 1, s, p, by first | rfl | rw [hw], rfl, rfl, ⟨by have := HI.out; omega, by have := HI.out; omega⟩, ⟨rfl⟩, HG2, rfl⟩
   ·
    have b1 : decide (i < 60) = false := decide_eq_false hlt
    have hx : r.drop i.toNat = [] := List.drop_eq_nil_of_le (by have := HL.out; have := HI.out; omega)
    have hg := HG.out
    rw [hx, wear_Worst.go] at hg
    clear hx hlt HK HI HG
    go_wp2
    go_ret3
    exact ⟨by rw [← hg]; rfl, HB2.out⟩

/-! ### dropperref07_Worst: function 49 -/
def dropperref07_Worst.l0 : Nat → List Int → Int → Int → Int → Int → Option (Int × Int × Int)
 | 0, _, _, _, _, _ => none
 | k + 1, x5, x6, x7, x8, x9 => if x9 < (x5.length : Int) then (if 0 ≤ x9 then (if (rd x5 x9) > x8 then (dropperref07_Worst.l0 k x5 x6 x9 (rd x5 x9) (wrap64 (x9 + 1))) else (dropperref07_Worst.l0 k x5 x6 x7 x8 (wrap64 (x9 + 1)))) else (none)) else (some (x7, x8, x6))
def dropperref07_Worst.f (k : Nat) (l0 : List (S55)) : Option (Int × Int × Int) := (dropperref07_Totals.f k l0).bind fun bt566 => (dropperref07_Worst.l0 k bt566.1 bt566.2 0 0 0)
theorem dropperref07_Worst.mono_l : ∀ k, (∀ y0 y1 y2 y3 y4, LeO (dropperref07_Worst.l0 k y0 y1 y2 y3 y4) (dropperref07_Worst.l0 (k + 1) y0 y1 y2 y3 y4))
 | 0 => fun _ _ _ _ _ r h => by simp [dropperref07_Worst.l0] at h
 | k + 1 => by
  have ih0 := dropperref07_Worst.mono_l k
  ·
   intro y0 y1 y2 y3 y4
   unfold dropperref07_Worst.l0
   repeat' first
   | (with_reducible exact ih0 _ _ _ _ _)
   | (with_reducible exact dropperref07_Totals.mono _ _)
   | (with_reducible exact LeO.refl _)
   | (with_reducible exact LeO.none _)
   | (with_reducible refine LeO.ite ?_ ?_)
   | (with_reducible refine LeO.bind ?_ (fun _ => ?_))
   | exact ih0 _ _ _ _ _
   | exact dropperref07_Totals.mono _ _
   | exact LeO.none _
   | refine LeO.ite ?_ ?_
   | refine LeO.bind ?_ (fun _ => ?_)
theorem dropperref07_Worst.mono : ∀ a0 k, LeO (dropperref07_Worst.f k a0) (dropperref07_Worst.f (k + 1) a0) := by
 intro a0 k
 have ih0 := dropperref07_Worst.mono_l k
 unfold dropperref07_Worst.f
 repeat' first
   | (with_reducible exact ih0 _ _ _ _ _)
   | (with_reducible exact dropperref07_Totals.mono _ _)
   | (with_reducible exact LeO.refl _)
   | (with_reducible exact LeO.none _)
   | (with_reducible refine LeO.ite ?_ ?_)
   | (with_reducible refine LeO.bind ?_ (fun _ => ?_))
   | exact ih0 _ _ _ _ _
   | exact dropperref07_Totals.mono _ _
   | exact LeO.none _
   | refine LeO.ite ?_ ?_
   | refine LeO.bind ?_ (fun _ => ?_)
set_option maxHeartbeats 8000000 in
set_option maxRecDepth 100000 in
theorem dropperref07_Worst.calls (k : Nat) (A0 : Option Addr) (c0 : Nat) (l0 : List (S55)) (r1 : Int) (r2 : Int) (r3 : Int) (w : World) (hr0 : Kd.C k55 w A0 l0.length l0) (hc0 : l0.length ≤ c0) (h : dropperref07_Worst.f k l0 = some (r1, r2, r3)) :
  Calls Try.prog 49 #[.slice A0 l0.length c0] w fun e w' => e = .returned (.tuple #[.int .i64 r1, .int .i64 r2, .int .i64 r3]) ∧ Below w.heap.size w w' := by
 have HR0 := Aside0.mk hr0
 have HC0 := Aside0.mk hc0
 clear hr0 hc0
 have HB := Aside0.mk (Below.refl w.heap.size w)
 have H : ((dropperref07_Totals.f k l0).bind fun bt566 => (dropperref07_Worst.l0 k bt566.1 bt566.2 0 0 0)) = some (r1, r2, r3) := h
 clear h
 replace H := Option.bind_eq_some_iff.mp H
 obtain ⟨⟨t566, t567⟩, A20, H⟩ := H
 replace H : (dropperref07_Worst.l0 k t566 t567 0 0 0) = some (r1, r2, r3) := H
 have A2 := Aside0.mk A20
 clear A20
 have H' := Aside0.mk H
 clear H
 go_enter Try.func49, Try.ntmps49
 go_wp2_with (first | (go_at_call 47; (with_reducible refine (dropperref07_Totals.calls k _ _ l0 t566 t567 _ ?side1 ?side2 A2.out).mono ?_); (case side1 => repeat (first | exact HR0.out | (with_reducible refine Kd.C_alloc ?_ _) | (with_reducible refine Kd.C_drewN ?_ _) | (with_reducible refine Kd.C_drew ?_))); (case side2 => exact HC0.out); rintro e w3 ⟨v568, rfl, ho0, hb⟩; have HO569 := Aside0.mk (Kd.R_lower ho0 (below_size bel)); replace HB := Aside0.mk (below_step bel hb); (try clear hb); (try clear hb2); (try clear hk); (try clear hi); (try clear ho0)))
 repeat (go_quiet (first | (go_at_call 47; (with_reducible refine (dropperref07_Totals.calls k _ _ l0 t566 t567 _ ?side1 ?side2 A2.out).mono ?_); (case side1 => repeat (first | exact HR0.out | (with_reducible refine Kd.C_alloc ?_ _) | (with_reducible refine Kd.C_drewN ?_ _) | (with_reducible refine Kd.C_drew ?_))); (case side2 => exact HC0.out); rintro e w3 ⟨v568, rfl, ho0, hb⟩; have HO569 := Aside0.mk (Kd.R_lower ho0 (below_size bel)); replace HB := Aside0.mk (below_step bel hb); (try clear hb); (try clear hb2); (try clear hk); (try clear hi); (try clear ho0))); try go_wp2_with (first | (go_at_call 47; (with_reducible refine (dropperref07_Totals.calls k _ _ l0 t566 t567 _ ?side1 ?side2 A2.out).mono ?_); (case side1 => repeat (first | exact HR0.out | (with_reducible refine Kd.C_alloc ?_ _) | (with_reducible refine Kd.C_drewN ?_ _) | (with_reducible refine Kd.C_drew ?_))); (case side2 => exact HC0.out); rintro e w3 ⟨v568, rfl, ho0, hb⟩; have HO569 := Aside0.mk (Kd.R_lower ho0 (below_size bel)); replace HB := Aside0.mk (below_step bel hb); (try clear hb); (try clear hb2); (try clear hk); (try clear hi); (try clear ho0))))
 go_loopg [7, 8, 9] k (fun kq v7 v8 v9 w' => ∃ (x7_1 : Int) (x8_1 : Int) (x9_1 : Int), v7 = .int .i64 x7_1 ∧ v8 = .int .i64 x8_1 ∧ v9 = .int .i64 x9_1 ∧ Aside0 (dropperref07_Worst.l0 kq t566 t567 x7_1 x8_1 x9_1 = some (r1, r2, r3)) ∧ Aside0 (kq ≤ k) ∧ Aside0 (Kd.R (Kd.int .i64) 3 w' w.heap.size (fun _ => True) v568 t566) ∧ Aside0 (Below w.heap.size w w'))
 case atStart => exact ⟨(0), (0), (0), rsz, rsz, rsz, H', ⟨Nat.le_refl _⟩, ⟨by (with_reducible repeat (first | apply Kd.R_alloc | apply Kd.R_drewN | apply Kd.R_drew)); exact HO569.out⟩, ⟨bel⟩⟩
 case round =>
  clear H'
  try clear p2
  obtain ⟨x7_1, x8_1, x9_1, rfl, rfl, rfl, HA, HK1, HO_5, HB⟩ := hrel
  cases gk with
  | zero => exact absurd HA.out (by simp [dropperref07_Worst.l0])
  | succ k1 =>
   have H := HA.out
   clear HA
   simp only [dropperref07_Worst.l0] at H
   by_cases c4 : x9_1 < (t566.length : Int)
   ·
    rw [if_pos c4] at H
    have c4b0 : decide (x9_1 < (t566.length : Int)) = true := decide_eq_true c4
    clear c4
    by_cases c5 : 0 ≤ x9_1
    ·
     rw [if_pos c5] at H
     have c5b0 : decide (0 ≤ x9_1) = true := decide_eq_true c5
     clear c5
     by_cases c6 : (rd t566 x9_1) > x8_1
     ·
      rw [if_pos c6] at H
      have c6b0 : decide (x8_1 < (rd t566 x9_1)) = true := decide_eq_true c6
      clear c6
      have H' := Aside0.mk H
      clear H
      obtain ⟨Ao7, co7, eo7⟩ := Kd.R_slice HO_5.out
      subst eo7
      have p570 : 0 ≤ (x9_1 : Int) := of_decide_eq_true asz
      have q570 : x9_1 < (t566.length : Int) := of_decide_eq_true asz
      obtain ⟨ad570, e570, hx570_0⟩ := Kd.at_int (Kd.R_reads' HO_5.out).2.2 x9_1 p570 q570
      cases e570
      replace p570 := eq_true p570
      replace q570 := eq_true q570
      have p571 : 0 ≤ (x9_1 : Int) := of_decide_eq_true asz
      have q571 : x9_1 < (t566.length : Int) := of_decide_eq_true asz
      obtain ⟨ad571, e571, hx571_0⟩ := Kd.at_int (Kd.R_reads' HO_5.out).2.2 x9_1 p571 q571
      obtain rfl : ad570 = ad571 := (by injection e571)
      replace p571 := eq_true p571
      replace q571 := eq_true q571
      go_wp2
      repeat (go_quiet (fail); try go_wp2)
      go_roundg k1
      case measure => have := HK1.out; omega
      case rel => exact ⟨(x9_1), (rd t566 x9_1), (wrap64 (x9_1 + 1)), rsz, rsz, rsz, H', ⟨by have := HK1.out; omega⟩, ⟨by (with_reducible repeat (first | apply Kd.R_alloc | apply Kd.R_drewN | apply Kd.R_drew)); exact HO_5.out⟩, ⟨bel⟩⟩
     ·
      rw [if_neg c6] at H
      have c6b0 : decide (x8_1 < (rd t566 x9_1)) = false := decide_eq_false c6
      clear c6
      have H' := Aside0.mk H
      clear H
      obtain ⟨Ao8, co8, eo8⟩ := Kd.R_slice HO_5.out
      subst eo8
      have p570 : 0 ≤ (x9_1 : Int) := of_decide_eq_true asz
      have q570 : x9_1 < (t566.length : Int) := of_decide_eq_true asz
      obtain ⟨ad570, e570, hx570_0⟩ := Kd.at_int (Kd.R_reads' HO_5.out).2.2 x9_1 p570 q570
      cases e570
      replace p570 := eq_true p570
      replace q570 := eq_true q570
      go_wp2
      repeat (go_quiet (fail); try go_wp2)
      go_roundg k1
      case measure => have := HK1.out; omega
      case rel => exact ⟨(x7_1), (x8_1), (wrap64 (x9_1 + 1)), rsz, rsz, rsz, H', ⟨by have := HK1.out; omega⟩, ⟨by (with_reducible repeat (first | apply Kd.R_alloc | apply Kd.R_drewN | apply Kd.R_drew)); exact HO_5.out⟩, ⟨bel⟩⟩
    ·
     rw [if_neg c5] at H
     exact absurd H (by simp)
   ·
    rw [if_neg c4] at H
    have c4b0 : decide (x9_1 < (t566.length : Int)) = false := decide_eq_false c4
    clear c4
    simp only [Option.some.injEq, Prod.mk.injEq] at H
    obtain ⟨rfl, rfl, rfl⟩ := H
    obtain ⟨Ao9, co9, eo9⟩ := Kd.R_slice HO_5.out
    subst eo9
    go_wp2
    repeat (go_quiet (fail); try go_wp2)
    go_ret3
    exact ⟨ezz, bel⟩

/-! ### wear_Over: function 50 -/

def wear_Over.go : List Int → Int → Int → List Int
 | [], _, _ => []
 | n :: t, i, m => if n > m then i :: wear_Over.go t (i + 1) m else wear_Over.go t (i + 1) m
def wear_Over.f (l0 : List S55) (m : Int) : Option (List Int × Int) := (wear_validRuns.f l0).bind fun v => if v = true then (if m < 0 then some ([], 2) else (wear_totals.f l0).bind fun r => some (wear_Over.go r 0 m, 0)) else some ([], 71)
set_option maxHeartbeats 4000000 in
set_option maxRecDepth 100000 in
theorem wear_Over.calls (A0 : Option Addr) (c0 : Nat) (l0 : List S55) (m : Int) (r1 : List Int) (r2 : Int) (w : World) (hr0 : Kd.C k55 w A0 l0.length l0) (hc0 : l0.length ≤ c0) (h : wear_Over.f l0 m = some (r1, r2)) :
  Calls Try.prog 50 #[.slice A0 l0.length c0, .int .i64 m] w fun e w' => ∃ v0_ : Value, e = .returned (.tuple #[v0_, .int .i64 r2]) ∧ Kd.R (Kd.int .i64) 3 w' w.heap.size (fun _ => True) v0_ r1 ∧ Below w.heap.size w w' := by
 have HR := Aside0.mk hr0
 clear hr0
 unfold wear_Over.f at h
 obtain ⟨v, hv, h⟩ := Option.bind_eq_some_iff.1 h
 have HV := Aside0.mk hv
 clear hv
 cases v with
 | false =>
  obtain ⟨rfl, rfl⟩ := Prod.mk.inj (Option.some.inj h)
  clear h
  go_enter Try.func50, Try.ntmps50
  go_wp2_with (first | (go_at_call 74; (refine (wear_validRuns.calls _ _ l0 false _ HR.out hc0 HV.out).mono ?_); rintro e w1 ⟨rfl, hb⟩; have HB1 := Aside0.mk hb; clear hb))
  go_ret2
  exact ⟨_, rfl, Kd.R_nil _ _ _ _ _, HB1.out⟩
 | true =>
  rw [if_pos rfl] at h
  by_cases hm : m < 0
  ·
   rw [if_pos hm] at h
   obtain ⟨rfl, rfl⟩ := Prod.mk.inj (Option.some.inj h)
   have hm1 : decide (m < 0) = true := decide_eq_true hm
   clear h hm
   go_enter Try.func50, Try.ntmps50
   go_wp2_with (first | (go_at_call 74; (refine (wear_validRuns.calls _ _ l0 true _ HR.out hc0 HV.out).mono ?_); rintro e w1 ⟨rfl, hb⟩; have HB1 := Aside0.mk hb; clear hb))
   go_ret2
   exact ⟨_, rfl, Kd.R_nil _ _ _ _ _, HB1.out⟩
  rw [if_neg hm] at h
  have hm1 : decide (m < 0) = false := decide_eq_false hm
  obtain ⟨r, hr, h⟩ := Option.bind_eq_some_iff.1 h
  obtain ⟨rfl, rfl⟩ := Prod.mk.inj (Option.some.inj h)
  have HT := Aside0.mk hr
  have HL := Aside0.mk (wear_Totals.len hr)
  have hu84 := Try.underlying84
  have hix : Aside0 (∀ (W : World) (i : Int), 0 ≤ i → i < 60 → (Instr.index 84 (.agg (wear_totals.ar r)) (.int .i64 i)).run Try.prog W = .ok (.int .i64 (rd r i)) W) := ⟨fun W i h0 h1 => by
   have hg := wear_totals.ar_get r i h0 (by rw [HL.out]; exact h1)
   simp [Instr.index, run_underlying hu84, asIntOf, h0, h1, hg, go_sem]⟩
  clear h hr hm
  go_enter Try.func50, Try.ntmps50
  go_wp2_with (first | (go_at_call 74; (refine (wear_validRuns.calls _ _ l0 true _ HR.out hc0 HV.out).mono ?_); rintro e w1 ⟨rfl, hb⟩; have HB1 := Aside0.mk hb; clear hb) | (go_at_call 75; (refine (wear_totals.calls _ _ l0 r _ (Kd.C_below HR.out HB1.out) hc0 HT.out).mono ?_); rintro e w2 ⟨rfl, hb⟩; have HB2 := Aside0.mk (below_step HB1.out hb); clear hb))
  go_loopg [6, 7, 8, 18] 60 (fun kq v6 v7 v8 v18 w' => ∃ (i : Int) (o : List Int), v18 = .int .i64 i ∧ Aside0 (0 ≤ i ∧ i ≤ 60) ∧ Aside0 (kq = 60 - i.toNat) ∧ Aside0 (o.length ≤ i.toNat) ∧ Aside0 (o ++ wear_Over.go (r.drop i.toNat) i m = wear_Over.go r 0 m) ∧ Aside0 (Kd.R (Kd.int .i64) 3 w' w.heap.size (fun _ => True) v6 o) ∧ Aside0 (Below w.heap.size w w'))
  case atStart => exact ⟨0, [], rfl, ⟨by omega, by omega⟩, ⟨rfl⟩, ⟨Nat.zero_le _⟩, ⟨rfl⟩, ⟨Kd.R_nil _ _ _ _ _⟩, HB2⟩
  case round =>
   clear HB1 HB2
   obtain ⟨i, o, rfl, HI, HK, HO1, HG, HO, HB⟩ := hrel
   by_cases hlt : i < 60
   ·
    have b1 : decide (i < 60) = true := decide_eq_true hlt
    have p1 : 0 ≤ i := HI.out.1
    have hxl : i.toNat < r.length := by have := HL.out; omega
    have hd : r.drop i.toNat = rd r i :: r.drop (i.toNat + 1) := by
     rw [show rd r i = r[i.toNat] by simp [rd, List.getD_eq_getElem?_getD, hxl]]; exact List.drop_eq_getElem_cons hxl
    have hx1 := fun W => hix.out W i p1 hlt
    have hw : wrap64 (i + 1) = i + 1 := by unfold wrap64; omega
    have e : (i + 1).toNat = i.toNat + 1 := by omega
    by_cases hq : rd r i > m
    ·
     have b2 : decide (rd r i > m) = true := decide_eq_true hq
     have HG2 : Aside0 ((o ++ [i]) ++ wear_Over.go (r.drop (i + 1).toNat) (i + 1) m = wear_Over.go r 0 m) := ⟨by rw [← HG.out, hd, wear_Over.go, if_pos hq, e, List.append_assoc]; rfl⟩
     have HO2 : Aside0 ((o ++ [i]).length ≤ (i + 1).toNat) := ⟨by rw [List.length_append]; have := HO1.out; simp only [List.length_singleton]; omega⟩
     have HL6 : Aside0 ((o.length + 1) * 8 ≤ 140737488355328) := ⟨by have := HO1.out; omega⟩
     clear hd hxl hq HG
     go_wp2_with (first | ((with_reducible refine gate_builtin (b := .append) (xs := #[.tmp 25, .tmp 27]) rfl ?_); at_builtin; refine Kd.R_append (Kd.int .i64) (w0 := w) w.heap.size rfl (.tmp 25) (.tmp 27) 22 3 (.int .i64 0) 8 rfl Try.underlying22 info3 rfl (by decide) (by omega) u6 o i [.int .i64 i] (fun _ => True) (fun _ => False) rfl rfl ?aP (fun _ hk => hk.elim) ?aF ?aO ?aB ?aS ?aL ?_; (case aP => exact rfl); (case aB => exact bel); (case aF => exact (fun _ _ => trivial)); (case aO => exact (ownx HO)); (case aS => exact (below_size bel)); (case aL => exact HL6.out); intro v134 w18 ho hb hg hat; have n2_ := Aside0.mk hb; have n3_ := Aside0.mk ho; clear HB; clear HO; have HB := n2_; have HO3 := n3_; clear n2_ n3_ ho hb hg hat))
     go_roundg (60 - (i + 1).toNat)
     case measure => have := HI.out; have := HK.out; omega
     case rel => exact ⟨i + 1, o ++ [i], by first | rfl | rw [hw], ⟨by have := HI.out; omega, by have := HI.out; omega⟩, ⟨rfl⟩, HO2, HG2, ⟨by (with_reducible repeat (first | apply Kd.R_alloc | apply Kd.R_drewN | apply Kd.R_drew)); exact HO3.out⟩, ⟨bel⟩⟩
    ·
     have b2 : decide (rd r i > m) = false := decide_eq_false hq
     have HG2 : Aside0 (o ++ wear_Over.go (r.drop (i + 1).toNat) (i + 1) m = wear_Over.go r 0 m) := ⟨by rw [← HG.out, hd, wear_Over.go, if_neg hq, e]⟩
     have HO2 : Aside0 (o.length ≤ (i + 1).toNat) := ⟨by have := HO1.out; omega⟩
     clear hd hxl hq HG
     go_wp2
     go_roundg (60 - (i + 1).toNat)
     case measure => have := HI.out; have := HK.out; omega
     case rel => exact ⟨i + 1, o, by first | rfl | rw [hw], ⟨by have := HI.out; omega, by have := HI.out; omega⟩, ⟨rfl⟩, HO2, HG2, HO, HB⟩
   ·
    have b1 : decide (i < 60) = false := decide_eq_false hlt
    have hx : r.drop i.toNat = [] := List.drop_eq_nil_of_le (by have := HL.out; have := HI.out; omega)
    have hg := HG.out
    rw [hx, wear_Over.go, List.append_nil] at hg
    clear hx hlt HK HI HG
    go_wp2
    go_ret2
    exact ⟨_, rfl, by rw [← hg]; exact HO.out, HB.out⟩

/-! ### dropperref07_Over: function 51 -/
mutual
def dropperref07_Over.j0 : Nat → Int → List Int → Int → Bool → Option (List Int × Int)
 | 0, _, _, _, _ => none
 | k + 1, x1, x6, x7, x20 => if x20 = true then (dropperref07_Over.j1 k x1 x6 2) else (dropperref07_Over.j1 k x1 x6 x7)
def dropperref07_Over.j1 : Nat → Int → List Int → Int → Option (List Int × Int)
 | 0, _, _, _ => none
 | k + 1, x1, x6, x7 => if x7 = 0 then (dropperref07_Over.l0 k x1 x6 ([] : List Int) 0) else (some (([] : List Int), x7))
def dropperref07_Over.l0 : Nat → Int → List Int → List Int → Int → Option (List Int × Int)
 | 0, _, _, _, _ => none
 | k + 1, x1, x6, x8, x9 => if x9 < (x6.length : Int) then (if 0 ≤ x9 then (if (rd x6 x9) > x1 then (if x8.length < 17592186044416 then (dropperref07_Over.l0 k x1 x6 (x8 ++ [x9]) (wrap64 (x9 + 1))) else (none)) else (dropperref07_Over.l0 k x1 x6 x8 (wrap64 (x9 + 1)))) else (none)) else (some (x8, 0))
end
def dropperref07_Over.f (k : Nat) (l0 : List (S55)) (a1 : Int) : Option (List Int × Int) := (dropperref07_Totals.f k l0).bind fun bt572 => (if bt572.2 = 0 then (dropperref07_Over.j0 k a1 bt572.1 bt572.2 (decide (a1 < 0))) else (dropperref07_Over.j0 k a1 bt572.1 bt572.2 false))
theorem dropperref07_Over.mono_l : ∀ k, (∀ y0 y1 y2 y3, LeO (dropperref07_Over.j0 k y0 y1 y2 y3) (dropperref07_Over.j0 (k + 1) y0 y1 y2 y3)) ∧ (∀ y0 y1 y2, LeO (dropperref07_Over.j1 k y0 y1 y2) (dropperref07_Over.j1 (k + 1) y0 y1 y2)) ∧ (∀ y0 y1 y2 y3, LeO (dropperref07_Over.l0 k y0 y1 y2 y3) (dropperref07_Over.l0 (k + 1) y0 y1 y2 y3))
 | 0 => ⟨fun _ _ _ _ r h => by simp [dropperref07_Over.j0] at h, fun _ _ _ r h => by simp [dropperref07_Over.j1] at h, fun _ _ _ _ r h => by simp [dropperref07_Over.l0] at h⟩
 | k + 1 => by
  obtain ⟨ih0, ih1, ih2⟩ := dropperref07_Over.mono_l k
  refine ⟨?_, ?_, ?_⟩
  ·
   intro y0 y1 y2 y3
   unfold dropperref07_Over.j0
   repeat' first
   | (with_reducible exact ih0 _ _ _ _)
   | (with_reducible exact ih1 _ _ _)
   | (with_reducible exact ih2 _ _ _ _)
   | (with_reducible exact dropperref07_Totals.mono _ _)
   | (with_reducible exact LeO.refl _)
   | (with_reducible exact LeO.none _)
   | (with_reducible refine LeO.ite ?_ ?_)
   | (with_reducible refine LeO.bind ?_ (fun _ => ?_))
   | exact ih0 _ _ _ _
   | exact ih1 _ _ _
   | exact ih2 _ _ _ _
   | exact dropperref07_Totals.mono _ _
   | exact LeO.none _
   | refine LeO.ite ?_ ?_
   | refine LeO.bind ?_ (fun _ => ?_)
  ·
   intro y0 y1 y2
   unfold dropperref07_Over.j1
   repeat' first
   | (with_reducible exact ih0 _ _ _ _)
   | (with_reducible exact ih1 _ _ _)
   | (with_reducible exact ih2 _ _ _ _)
   | (with_reducible exact dropperref07_Totals.mono _ _)
   | (with_reducible exact LeO.refl _)
   | (with_reducible exact LeO.none _)
   | (with_reducible refine LeO.ite ?_ ?_)
   | (with_reducible refine LeO.bind ?_ (fun _ => ?_))
   | exact ih0 _ _ _ _
   | exact ih1 _ _ _
   | exact ih2 _ _ _ _
   | exact dropperref07_Totals.mono _ _
   | exact LeO.none _
   | refine LeO.ite ?_ ?_
   | refine LeO.bind ?_ (fun _ => ?_)
  ·
   intro y0 y1 y2 y3
   unfold dropperref07_Over.l0
   repeat' first
   | (with_reducible exact ih0 _ _ _ _)
   | (with_reducible exact ih1 _ _ _)
   | (with_reducible exact ih2 _ _ _ _)
   | (with_reducible exact dropperref07_Totals.mono _ _)
   | (with_reducible exact LeO.refl _)
   | (with_reducible exact LeO.none _)
   | (with_reducible refine LeO.ite ?_ ?_)
   | (with_reducible refine LeO.bind ?_ (fun _ => ?_))
   | exact ih0 _ _ _ _
   | exact ih1 _ _ _
   | exact ih2 _ _ _ _
   | exact dropperref07_Totals.mono _ _
   | exact LeO.none _
   | refine LeO.ite ?_ ?_
   | refine LeO.bind ?_ (fun _ => ?_)
theorem dropperref07_Over.mono : ∀ a0 a1 k, LeO (dropperref07_Over.f k a0 a1) (dropperref07_Over.f (k + 1) a0 a1) := by
 intro a0 a1 k
 obtain ⟨ih0, ih1, ih2⟩ := dropperref07_Over.mono_l k
 unfold dropperref07_Over.f
 repeat' first
   | (with_reducible exact ih0 _ _ _ _)
   | (with_reducible exact ih1 _ _ _)
   | (with_reducible exact ih2 _ _ _ _)
   | (with_reducible exact dropperref07_Totals.mono _ _)
   | (with_reducible exact LeO.refl _)
   | (with_reducible exact LeO.none _)
   | (with_reducible refine LeO.ite ?_ ?_)
   | (with_reducible refine LeO.bind ?_ (fun _ => ?_))
   | exact ih0 _ _ _ _
   | exact ih1 _ _ _
   | exact ih2 _ _ _ _
   | exact dropperref07_Totals.mono _ _
   | exact LeO.none _
   | refine LeO.ite ?_ ?_
   | refine LeO.bind ?_ (fun _ => ?_)
set_option maxHeartbeats 8000000 in
set_option maxRecDepth 100000 in
theorem dropperref07_Over.calls (k : Nat) (A0 : Option Addr) (c0 : Nat) (l0 : List (S55)) (a1 : Int) (r1 : List Int) (r2 : Int) (w : World) (hr0 : Kd.C k55 w A0 l0.length l0) (hc0 : l0.length ≤ c0) (h : dropperref07_Over.f k l0 a1 = some (r1, r2)) :
  Calls Try.prog 51 #[.slice A0 l0.length c0, .int .i64 a1] w fun e w' => ∃ v0_ : Value, e = .returned (.tuple #[v0_, .int .i64 r2]) ∧ Kd.R (Kd.int .i64) 3 w' w.heap.size (fun _ => True) v0_ r1 ∧ Below w.heap.size w w' := by
 have HR0 := Aside0.mk hr0
 have HC0 := Aside0.mk hc0
 clear hr0 hc0
 have HB := Aside0.mk (Below.refl w.heap.size w)
 have H : ((dropperref07_Totals.f k l0).bind fun bt572 => (if bt572.2 = 0 then (dropperref07_Over.j0 k a1 bt572.1 bt572.2 (decide (a1 < 0))) else (dropperref07_Over.j0 k a1 bt572.1 bt572.2 false))) = some (r1, r2) := h
 clear h
 replace H := Option.bind_eq_some_iff.mp H
 obtain ⟨⟨t572, t573⟩, A30, H⟩ := H
 replace H : (if t573 = 0 then (dropperref07_Over.j0 k a1 t572 t573 (decide (a1 < 0))) else (dropperref07_Over.j0 k a1 t572 t573 false)) = some (r1, r2) := H
 have A3 := Aside0.mk A30
 clear A30
 have HC4 := Aside0.mk H
 clear H
 go_enter Try.func51, Try.ntmps51
 go_upto_region 2 with (first | ((with_reducible refine gate_callee (f := 47) rfl ?_); refine goesL_ (some 12) rfl rfl Try.func47 (by kernel_rfl) rfl #[.slice A0 l0.length c0] rfl mapz ?_; (with_reducible refine (dropperref07_Totals.calls k _ _ l0 t572 t573 _ ?side1 ?side2 A3.out).mono ?_); (case side1 => repeat (first | exact HR0.out | (with_reducible refine Kd.C_alloc ?_ _) | (with_reducible refine Kd.C_drewN ?_ _) | (with_reducible refine Kd.C_drew ?_))); (case side2 => exact HC0.out); rintro e w5 ⟨v574, rfl, ho0, hb⟩; refine ⟨_, rfl, ?_⟩; have HO575 := Aside0.mk (Kd.R_lower ho0 (below_size bel)); replace HB := Aside0.mk (below_step bel hb); (try clear hb); (try clear hb2); (try clear hk); (try clear hi); (try clear ho0)))
 (try simp only [Act.put, List.setIfInBounds_toArray, List.set_cons_zero, List.set_cons_succ])
 go_cut [20] (fun v20 wc => ∃ (kq : Nat) (x20_3 : Bool), v20 = .bool x20_3 ∧ Aside0 (dropperref07_Over.j0 kq a1 t572 t573 x20_3 = some (r1, r2)) ∧ Aside0 (kq ≤ k) ∧ Aside0 (Kd.R (Kd.int .i64) 3 wc w.heap.size (fun _ => True) v574 t572) ∧ Aside0 (Below w.heap.size w wc))
 case first =>
  have H := HC4.out
  clear HC4
  by_cases c6 : t573 = 0
  ·
   rw [if_pos c6] at H
   have c6b0 : (t573 == 0) = true := beq_iff_eq.mpr c6
   have c6b1 : (t573 != 0) = false := bne_eq_false_iff_eq.mpr c6
   clear c6
   (first | rw [c6b0] | (simp only [i64_w, i32_w]; rw [c6b0]) | skip)
   have H' := Aside0.mk H
   clear H
   go_wp2
   go_meet
   case rel => exact ⟨_, (decide (a1 < 0)), rsz, H', ⟨by first | omega | exact Nat.le_refl _⟩, ⟨by (with_reducible repeat (first | apply Kd.R_alloc | apply Kd.R_drewN | apply Kd.R_drew)); exact HO575.out⟩, ⟨bel⟩⟩
  ·
   rw [if_neg c6] at H
   have c6b0 : (t573 == 0) = false := beq_eq_false_iff_ne.mpr c6
   have c6b1 : (t573 != 0) = true := bne_iff_ne.mpr c6
   (first | rw [c6b0] | (simp only [i64_w, i32_w]; rw [c6b0]) | skip)
   have H' := Aside0.mk H
   clear H
   go_wp2
   go_meet
   case rel => exact ⟨_, (false), rsz, H', ⟨by first | omega | exact Nat.le_refl _⟩, ⟨by (with_reducible repeat (first | apply Kd.R_alloc | apply Kd.R_drewN | apply Kd.R_drew)); exact HO575.out⟩, ⟨bel⟩⟩
 case rest =>
  clear HC4
  try clear p2
  try clear c4
  try clear c5
  try clear c6
  try clear c6b0
  try clear c6b1
  obtain ⟨kq, x20_3, rfl, HA, HJ3, HO_6, HB⟩ := hcut
  cases kq with
  | zero => exact absurd HA.out (by simp [dropperref07_Over.j0])
  | succ kj3 =>
   have H := HA.out
   clear HA
   simp only [dropperref07_Over.j0] at H
   have HC7 := Aside0.mk H
   clear H
   go_upto_if 20 with (fail)
   go_cut [7] (fun v7 wc => ∃ (kq : Nat) (x7_6 : Int), v7 = .int .i64 x7_6 ∧ Aside0 (dropperref07_Over.j1 kq a1 t572 x7_6 = some (r1, r2)) ∧ Aside0 (kq ≤ kj3) ∧ Aside0 (Kd.R (Kd.int .i64) 3 wc w.heap.size (fun _ => True) v574 t572) ∧ Aside0 (Below w.heap.size w wc))
   case first =>
    have H := HC7.out
    clear HC7
    by_cases c8 : x20_3 = true
    ·
     subst c8
     have H1 : (dropperref07_Over.j1 kj3 a1 t572 2) = some (r1, r2) := by rw [if_pos rfl] at H; exact H
     clear H
     have H := H1
     clear H1
     have H' := Aside0.mk H
     clear H
     go_wp2
     go_meet
     case rel => exact ⟨_, (2), rsz, H', ⟨by have := HJ3.out; first | omega | exact Nat.le_refl _⟩, ⟨by (with_reducible repeat (first | apply Kd.R_alloc | apply Kd.R_drewN | apply Kd.R_drew)); exact HO_6.out⟩, ⟨bel⟩⟩
    ·
     replace c8 := Bool.eq_false_iff.mpr c8
     subst c8
     have H1 : (dropperref07_Over.j1 kj3 a1 t572 t573) = some (r1, r2) := by rw [if_neg (show ¬ (false = true) by decide)] at H; exact H
     clear H
     have H := H1
     clear H1
     have H' := Aside0.mk H
     clear H
     go_wp2
     go_meet
     case rel => exact ⟨_, (t573), rsz, H', ⟨by have := HJ3.out; first | omega | exact Nat.le_refl _⟩, ⟨by (with_reducible repeat (first | apply Kd.R_alloc | apply Kd.R_drewN | apply Kd.R_drew)); exact HO_6.out⟩, ⟨bel⟩⟩
   case rest =>
    clear HC7
    try clear p2
    try clear c4
    try clear c5
    try clear c6
    try clear c6b0
    try clear c6b1
    try clear c8
    try clear p2
    obtain ⟨kq, x7_6, rfl, HA, HJ6, HO_6, HB⟩ := hcut
    cases kq with
    | zero => exact absurd HA.out (by simp [dropperref07_Over.j1])
    | succ kj6 =>
     have H := HA.out
     clear HA
     simp only [dropperref07_Over.j1] at H
     by_cases c9 : x7_6 = 0
     ·
      rw [if_pos c9] at H
      have c9b0 : (x7_6 == 0) = true := beq_iff_eq.mpr c9
      have c9b1 : (x7_6 != 0) = false := bne_eq_false_iff_eq.mpr c9
      clear c9
      have H' := Aside0.mk H
      clear H
      go_wp2
      go_loopg [8, 9] kj6 (fun kq v8 v9 w' => ∃ (x8_3 : List Int) (x9_3 : Int), v9 = .int .i64 x9_3 ∧ Aside0 (dropperref07_Over.l0 kq a1 t572 x8_3 x9_3 = some (r1, r2)) ∧ Aside0 (kq ≤ kj6) ∧ Aside0 (Kd.R (Kd.int .i64) 3 w' w.heap.size (fun k_ => some k_ ≠ (v8 : Value).ownBlock) v574 t572) ∧ Aside0 (Kd.R (Kd.int .i64) 3 w' w.heap.size (fun k_ => some k_ ≠ (v574 : Value).ownBlock) v8 x8_3) ∧ Aside0 (Below w.heap.size w w'))
      case atStart => exact ⟨(([] : List Int)), (0), rsz, H', ⟨Nat.le_refl _⟩, ⟨by (with_reducible repeat (first | apply Kd.R_alloc | apply Kd.R_drewN | apply Kd.R_drew)); exact Kd.R_mono HO_6.out (fun _ hk => (by simp [Value.ownBlock]))⟩, ⟨by first | exact Kd.R_nil _ _ _ _ _ | exact Kd.N_nil _ _ _ _ _ | exact Kd.V_nil _ _ _ _ _ | exact Kd.Q_nil _ _ _ _ _ | exact Kd.S_nil _ _ _ _ _⟩, ⟨bel⟩⟩
      case round =>
       clear H'
       try clear p2
       try clear c4
       try clear c5
       try clear c6
       try clear c6b0
       try clear c6b1
       try clear c8
       try clear c9
       try clear c9b0
       try clear c9b1
       try clear p2
       obtain ⟨x8_3, x9_3, rfl, HA, HK3, HO_6, HO_8, HB⟩ := hrel
       cases gk with
       | zero => exact absurd HA.out (by simp [dropperref07_Over.l0])
       | succ k3 =>
        have H := HA.out
        clear HA
        simp only [dropperref07_Over.l0] at H
        by_cases c10 : x9_3 < (t572.length : Int)
        ·
         rw [if_pos c10] at H
         have c10b0 : decide (x9_3 < (t572.length : Int)) = true := decide_eq_true c10
         clear c10
         by_cases c11 : 0 ≤ x9_3
         ·
          rw [if_pos c11] at H
          have c11b0 : decide (0 ≤ x9_3) = true := decide_eq_true c11
          clear c11
          by_cases c12 : (rd t572 x9_3) > a1
          ·
           rw [if_pos c12] at H
           have c12b0 : decide (a1 < (rd t572 x9_3)) = true := decide_eq_true c12
           clear c12
           by_cases c13 : x8_3.length < 17592186044416
           ·
            rw [if_pos c13] at H
            have LMc13 := Aside0.mk c13
            clear c13
            obtain ⟨y577, hy577⟩ : ∃ y_ : List Int, y_ = (x8_3 ++ [x9_3]) := ⟨_, rfl⟩
            replace H : (dropperref07_Over.l0 k3 a1 t572 y577 (wrap64 (x9_3 + 1))) = some (r1, r2) := by first | (rw [hy577]; with_reducible exact H) | (have H2_ := (Option.bind_some _ _).symm.trans H; rw [hy577]; with_reducible exact H2_) | (have H2_ := (Option.bind_some _ _).symm.trans H; with_reducible exact H2_) | with_reducible exact H | (rw [hy577]; exact H) | exact H
            have Ny577 := Aside0.mk hy577
            clear hy577
            have H' := Aside0.mk H
            clear H
            obtain ⟨Ao14, co14, eo14⟩ := Kd.R_slice HO_6.out
            subst eo14
            have p576 : 0 ≤ (x9_3 : Int) := of_decide_eq_true asz
            have q576 : x9_3 < (t572.length : Int) := of_decide_eq_true asz
            obtain ⟨ad576, e576, hx576_0⟩ := Kd.at_int (Kd.R_reads' HO_6.out).2.2 x9_3 p576 q576
            cases e576
            replace p576 := eq_true p576
            replace q576 := eq_true q576
            go_wp2_with (first | ((with_reducible refine gate_builtin (b := .append) (xs := #[.tmp 36, .tmp 38]) rfl ?_); at_builtin; refine Kd.R_append (Kd.int .i64) (w0 := w) w.heap.size rfl (.tmp 36) (.tmp 38) 22 3 (.int .i64 0) 8 rfl Try.underlying22 info3 rfl (by decide) (by omega) u8 x8_3 x9_3 [.int .i64 x9_3] (fun k_ => some k_ ≠ (.slice (some ad576) t572.length co14 : Value).ownBlock) (fun _ => False) rfl rfl ?aP (fun _ hk => hk.elim) ?aF ?aO ?aB ?aS ?aL ?_; (case aP => exact rfl); (case aB => exact bel); (case aF => exact (fun k_ hk => Kd.fresh' (Kd.R_lt (ownx HO_6)) k_ hk)); (case aO => exact (ownx HO_8)); (case aS => exact (below_size bel)); (case aL => have := LMc13.out; omega); intro v578 w15 ho hb hg hat; rw [← Ny577.out] at ho; have n0_ := Aside0.mk (Kd.R_after (ok := (fun _ => True)) (by (with_reducible repeat (first | apply Kd.R_alloc | apply Kd.R_drewN | apply Kd.R_drew)); exact Kd.R_mono HO_6.out (fun _ hk => ⟨trivial, hk⟩)) hg hat); have n1_ := Aside0.mk (hb); have n2_ := Aside0.mk (ho); clear HO_6; clear HB; clear HO_8; have HO_6 := n0_; have HB := n1_; have HO579 := n2_; clear n0_ n1_ n2_; clear ho hb hg hat))
            go_roundg k3
            case measure => have := HJ3.out; have := HJ6.out; have := HK3.out; omega
            case rel => exact ⟨(y577), (wrap64 (x9_3 + 1)), rsz, H', ⟨by have := HJ3.out; have := HJ6.out; have := HK3.out; omega⟩, ⟨by (with_reducible repeat (first | apply Kd.R_alloc | apply Kd.R_drewN | apply Kd.R_drew)); exact Kd.R_mono HO_6.out (fun _ hk => hk.2)⟩, ⟨by (with_reducible repeat (first | apply Kd.R_alloc | apply Kd.R_drewN | apply Kd.R_drew)); exact HO579.out⟩, ⟨bel⟩⟩
           ·
            rw [if_neg c13] at H
            exact absurd H (by simp)
          ·
           rw [if_neg c12] at H
           have c12b0 : decide (a1 < (rd t572 x9_3)) = false := decide_eq_false c12
           clear c12
           have H' := Aside0.mk H
           clear H
           obtain ⟨Ao16, co16, eo16⟩ := Kd.R_slice HO_6.out
           subst eo16
           have p576 : 0 ≤ (x9_3 : Int) := of_decide_eq_true asz
           have q576 : x9_3 < (t572.length : Int) := of_decide_eq_true asz
           obtain ⟨ad576, e576, hx576_0⟩ := Kd.at_int (Kd.R_reads' HO_6.out).2.2 x9_3 p576 q576
           cases e576
           replace p576 := eq_true p576
           replace q576 := eq_true q576
           go_wp2
           go_roundg k3
           case measure => have := HJ3.out; have := HJ6.out; have := HK3.out; omega
           case rel => exact ⟨(x8_3), (wrap64 (x9_3 + 1)), rsz, H', ⟨by have := HJ3.out; have := HJ6.out; have := HK3.out; omega⟩, ⟨by (with_reducible repeat (first | apply Kd.R_alloc | apply Kd.R_drewN | apply Kd.R_drew)); exact HO_6.out⟩, ⟨by (with_reducible repeat (first | apply Kd.R_alloc | apply Kd.R_drewN | apply Kd.R_drew)); exact HO_8.out⟩, ⟨bel⟩⟩
         ·
          rw [if_neg c11] at H
          exact absurd H (by simp)
        ·
         rw [if_neg c10] at H
         have c10b0 : decide (x9_3 < (t572.length : Int)) = false := decide_eq_false c10
         clear c10
         simp only [Option.some.injEq, Prod.mk.injEq] at H
         obtain ⟨rfl, rfl⟩ := H
         obtain ⟨Ao17, co17, eo17⟩ := Kd.R_slice HO_6.out
         subst eo17
         go_wp2
         go_ret2
         exact ⟨_, ezz, by (with_reducible repeat (first | apply Kd.R_alloc | apply Kd.R_drewN | apply Kd.R_drew)); exact Kd.R_mono HO_8.out (fun _ hk => trivial), bel⟩
     ·
      rw [if_neg c9] at H
      have c9b0 : (x7_6 == 0) = false := beq_eq_false_iff_ne.mpr c9
      have c9b1 : (x7_6 != 0) = true := bne_iff_ne.mpr c9
      simp only [Option.some.injEq, Prod.mk.injEq] at H
      obtain ⟨rfl, rfl⟩ := H
      go_wp2
      go_ret2
      exact ⟨_, ezz, by first | exact Kd.R_nil _ _ _ _ _ | exact Kd.N_nil _ _ _ _ _ | exact Kd.V_nil _ _ _ _ _ | exact Kd.Q_nil _ _ _ _ _ | exact Kd.S_nil _ _ _ _ _, bel⟩

/-! ### dropperlaw07_WearTotals: function 13 -/
def dropperlaw07_WearTotals.j0 : Nat → List (S55) → Int → Bool → Option (Bool)
 | 0, _, _, _ => none
 | k + 1, x0, x1, x66 => if x66 = true then (none) else ((wear_Over.f x0 x1).bind fun bt596 => ((dropperref07_Over.f k x0 x1).bind fun bt600 => ((dropperlaw07_SameInts.f k bt596.1 bt600.1).bind fun t604 => (if t604 = true then (if bt596.2 = bt600.2 then ((dropperlaw07_First.f k).bind fun t605 => (some t605)) else (none)) else (none)))))
def dropperlaw07_WearTotals.f (k : Nat) (l0 : List (S55)) (a1 : Int) : Option (Bool) := if (l0.length : Int) > 100 then ((dropperlaw07_First.f k).bind fun t580 => (some t580)) else ((wear_Totals.f l0).bind fun bt581 => ((dropperref07_Totals.f k l0).bind fun bt585 => ((wear_Worst.f l0).bind fun bt589 => ((dropperref07_Worst.f k l0).bind fun bt592 => ((dropperlaw07_SameInts.f k bt581.1 bt585.1).bind fun t595 => (if t595 = true then (if bt581.2 = bt585.2 then (if bt589.1 = bt592.1 then (if bt589.2.1 = bt592.2.1 then (dropperlaw07_WearTotals.j0 k l0 a1 (bt589.2.2 != bt592.2.2)) else (dropperlaw07_WearTotals.j0 k l0 a1 true)) else (dropperlaw07_WearTotals.j0 k l0 a1 true)) else (dropperlaw07_WearTotals.j0 k l0 a1 true)) else (dropperlaw07_WearTotals.j0 k l0 a1 true)))))))
theorem dropperlaw07_WearTotals.mono_l : ∀ k, (∀ y0 y1 y2, LeO (dropperlaw07_WearTotals.j0 k y0 y1 y2) (dropperlaw07_WearTotals.j0 (k + 1) y0 y1 y2))
 | 0 => fun _ _ _ r h => by simp [dropperlaw07_WearTotals.j0] at h
 | k + 1 => by
  have ih0 := dropperlaw07_WearTotals.mono_l k
  ·
   intro y0 y1 y2
   unfold dropperlaw07_WearTotals.j0
   repeat' first
   | (with_reducible exact ih0 _ _ _)
   | (with_reducible exact dropperlaw07_First.mono _)
   | (with_reducible exact dropperlaw07_SameInts.mono _ _ _)
   | (with_reducible exact dropperref07_Over.mono _ _ _)
   | (with_reducible exact dropperref07_Totals.mono _ _)
   | (with_reducible exact dropperref07_Worst.mono _ _)
   | (with_reducible exact LeO.refl _)
   | (with_reducible exact LeO.none _)
   | (with_reducible refine LeO.ite ?_ ?_)
   | (with_reducible refine LeO.bind ?_ (fun _ => ?_))
   | exact ih0 _ _ _
   | exact dropperlaw07_First.mono _
   | exact dropperlaw07_SameInts.mono _ _ _
   | exact dropperref07_Over.mono _ _ _
   | exact dropperref07_Totals.mono _ _
   | exact dropperref07_Worst.mono _ _
   | exact LeO.none _
   | refine LeO.ite ?_ ?_
   | refine LeO.bind ?_ (fun _ => ?_)
theorem dropperlaw07_WearTotals.mono : ∀ a0 a1 k, LeO (dropperlaw07_WearTotals.f k a0 a1) (dropperlaw07_WearTotals.f (k + 1) a0 a1) := by
 intro a0 a1 k
 have ih0 := dropperlaw07_WearTotals.mono_l k
 unfold dropperlaw07_WearTotals.f
 repeat' first
   | (with_reducible exact ih0 _ _ _)
   | (with_reducible exact dropperlaw07_First.mono _)
   | (with_reducible exact dropperlaw07_SameInts.mono _ _ _)
   | (with_reducible exact dropperref07_Over.mono _ _ _)
   | (with_reducible exact dropperref07_Totals.mono _ _)
   | (with_reducible exact dropperref07_Worst.mono _ _)
   | (with_reducible exact LeO.refl _)
   | (with_reducible exact LeO.none _)
   | (with_reducible refine LeO.ite ?_ ?_)
   | (with_reducible refine LeO.bind ?_ (fun _ => ?_))
   | exact ih0 _ _ _
   | exact dropperlaw07_First.mono _
   | exact dropperlaw07_SameInts.mono _ _ _
   | exact dropperref07_Over.mono _ _ _
   | exact dropperref07_Totals.mono _ _
   | exact dropperref07_Worst.mono _ _
   | exact LeO.none _
   | refine LeO.ite ?_ ?_
   | refine LeO.bind ?_ (fun _ => ?_)
set_option maxHeartbeats 8000000 in
set_option maxRecDepth 100000 in
theorem dropperlaw07_WearTotals.calls (k : Nat) (A0 : Option Addr) (c0 : Nat) (l0 : List (S55)) (a1 : Int) (r : Bool) (w : World) (hr0 : Kd.C k55 w A0 l0.length l0) (hc0 : l0.length ≤ c0) (h : dropperlaw07_WearTotals.f k l0 a1 = some r) :
  Calls Try.prog 13 #[.slice A0 l0.length c0, .int .i64 a1] w fun e w' => e = .returned (.bool r) ∧ Below w.heap.size w w' := by
 have HR0 := Aside0.mk hr0
 have HC0 := Aside0.mk hc0
 clear hr0 hc0
 have HB := Aside0.mk (Below.refl w.heap.size w)
 have H : (if (l0.length : Int) > 100 then ((dropperlaw07_First.f k).bind fun t580 => (some t580)) else ((wear_Totals.f l0).bind fun bt581 => ((dropperref07_Totals.f k l0).bind fun bt585 => ((wear_Worst.f l0).bind fun bt589 => ((dropperref07_Worst.f k l0).bind fun bt592 => ((dropperlaw07_SameInts.f k bt581.1 bt585.1).bind fun t595 => (if t595 = true then (if bt581.2 = bt585.2 then (if bt589.1 = bt592.1 then (if bt589.2.1 = bt592.2.1 then (dropperlaw07_WearTotals.j0 k l0 a1 (bt589.2.2 != bt592.2.2)) else (dropperlaw07_WearTotals.j0 k l0 a1 true)) else (dropperlaw07_WearTotals.j0 k l0 a1 true)) else (dropperlaw07_WearTotals.j0 k l0 a1 true)) else (dropperlaw07_WearTotals.j0 k l0 a1 true)))))))) = some r := h
 clear h
 by_cases c3 : (l0.length : Int) > 100
 ·
  rw [if_pos c3] at H
  have c3b0 : decide (100 < (l0.length : Int)) = true := decide_eq_true c3
  have c3b1 : decide (100 < l0.length) = true := decide_eq_true (by omega)
  clear c3
  replace H := Option.bind_eq_some_iff.mp H
  obtain ⟨t580, A40, H⟩ := H
  replace H : (some t580) = some r := H
  have A4 := Aside0.mk A40
  clear A40
  obtain rfl := Option.some.inj H
  go_enter Try.func13, Try.ntmps13
  go_wp2_with (first | ((with_reducible refine gate_callee (f := 15) rfl ?_); refine goesL_ (some 20) rfl rfl Try.func15 (by kernel_rfl) rfl #[] rfl mapz ?_; (with_reducible refine (dropperlaw07_First.calls k  t580 _ A4.out).mono ?_); rintro e w5 ⟨rfl, hb⟩; refine ⟨_, rfl, ?_⟩; replace HB := Aside0.mk (below_step bel hb); (try clear hb); (try clear hb2); (try clear hk); (try clear hi)))
  go_ret
  exact ⟨ezz, bel⟩
 ·
  rw [if_neg c3] at H
  have c3b0 : decide (100 < (l0.length : Int)) = false := decide_eq_false c3
  have c3b1 : decide (100 < l0.length) = false := decide_eq_false (by omega)
  clear c3
  replace H := Option.bind_eq_some_iff.mp H
  obtain ⟨⟨t581, t582⟩, A60, H⟩ := H
  replace H : ((dropperref07_Totals.f k l0).bind fun bt585 => ((wear_Worst.f l0).bind fun bt589 => ((dropperref07_Worst.f k l0).bind fun bt592 => ((dropperlaw07_SameInts.f k t581 bt585.1).bind fun t595 => (if t595 = true then (if t582 = bt585.2 then (if bt589.1 = bt592.1 then (if bt589.2.1 = bt592.2.1 then (dropperlaw07_WearTotals.j0 k l0 a1 (bt589.2.2 != bt592.2.2)) else (dropperlaw07_WearTotals.j0 k l0 a1 true)) else (dropperlaw07_WearTotals.j0 k l0 a1 true)) else (dropperlaw07_WearTotals.j0 k l0 a1 true)) else (dropperlaw07_WearTotals.j0 k l0 a1 true)))))) = some r := H
  have A6 := Aside0.mk A60
  clear A60
  replace H := Option.bind_eq_some_iff.mp H
  obtain ⟨⟨t585, t586⟩, A70, H⟩ := H
  replace H : ((wear_Worst.f l0).bind fun bt589 => ((dropperref07_Worst.f k l0).bind fun bt592 => ((dropperlaw07_SameInts.f k t581 t585).bind fun t595 => (if t595 = true then (if t582 = t586 then (if bt589.1 = bt592.1 then (if bt589.2.1 = bt592.2.1 then (dropperlaw07_WearTotals.j0 k l0 a1 (bt589.2.2 != bt592.2.2)) else (dropperlaw07_WearTotals.j0 k l0 a1 true)) else (dropperlaw07_WearTotals.j0 k l0 a1 true)) else (dropperlaw07_WearTotals.j0 k l0 a1 true)) else (dropperlaw07_WearTotals.j0 k l0 a1 true))))) = some r := H
  have A7 := Aside0.mk A70
  clear A70
  replace H := Option.bind_eq_some_iff.mp H
  obtain ⟨⟨t589, t590, t591⟩, A80, H⟩ := H
  replace H : ((dropperref07_Worst.f k l0).bind fun bt592 => ((dropperlaw07_SameInts.f k t581 t585).bind fun t595 => (if t595 = true then (if t582 = t586 then (if t589 = bt592.1 then (if t590 = bt592.2.1 then (dropperlaw07_WearTotals.j0 k l0 a1 (t591 != bt592.2.2)) else (dropperlaw07_WearTotals.j0 k l0 a1 true)) else (dropperlaw07_WearTotals.j0 k l0 a1 true)) else (dropperlaw07_WearTotals.j0 k l0 a1 true)) else (dropperlaw07_WearTotals.j0 k l0 a1 true)))) = some r := H
  have A8 := Aside0.mk A80
  clear A80
  replace H := Option.bind_eq_some_iff.mp H
  obtain ⟨⟨t592, t593, t594⟩, A90, H⟩ := H
  replace H : ((dropperlaw07_SameInts.f k t581 t585).bind fun t595 => (if t595 = true then (if t582 = t586 then (if t589 = t592 then (if t590 = t593 then (dropperlaw07_WearTotals.j0 k l0 a1 (t591 != t594)) else (dropperlaw07_WearTotals.j0 k l0 a1 true)) else (dropperlaw07_WearTotals.j0 k l0 a1 true)) else (dropperlaw07_WearTotals.j0 k l0 a1 true)) else (dropperlaw07_WearTotals.j0 k l0 a1 true))) = some r := H
  have A9 := Aside0.mk A90
  clear A90
  have HC10 := Aside0.mk H
  clear H
  go_enter Try.func13, Try.ntmps13
  go_upto_region 7 with (first | ((with_reducible refine gate_callee (f := 40) rfl ?_); refine goesL_ (some 23) rfl rfl Try.func40 (by kernel_rfl) rfl #[.slice A0 l0.length c0] rfl mapz ?_; (with_reducible refine (wear_Totals.calls _ _ l0 t581 t582 _ ?side1 ?side2 A6.out).mono ?_); (case side1 => repeat (first | exact HR0.out | (with_reducible refine Kd.C_alloc ?_ _) | (with_reducible refine Kd.C_drewN ?_ _) | (with_reducible refine Kd.C_drew ?_))); (case side2 => exact HC0.out); rintro e w11 ⟨v583, rfl, ho0, hb⟩; refine ⟨_, rfl, ?_⟩; have HO584 := Aside0.mk (Kd.R_lower ho0 (below_size bel)); replace HB := Aside0.mk (below_step bel hb); (try clear hb); (try clear hb2); (try clear hk); (try clear hi); (try clear ho0)) | ((with_reducible refine gate_callee (f := 47) rfl ?_); refine goesL_ (some 28) rfl rfl Try.func47 (by kernel_rfl) rfl #[.slice A0 l0.length c0] rfl mapz ?_; (with_reducible refine (dropperref07_Totals.calls k _ _ l0 t585 t586 _ ?side1 ?side2 A7.out).mono ?_); (case side1 => exact cbz HR0); (case side2 => exact HC0.out); rintro e w12 ⟨v587, rfl, ho0, hb⟩; refine ⟨_, rfl, ?_⟩; have HO588 := Aside0.mk (Kd.R_lower ho0 (below_size bel)); replace HO584 := Aside0.mk (Kd.R_below (ownx HO584) hb); replace HB := Aside0.mk (below_step bel hb); (try clear hb); (try clear hb2); (try clear hk); (try clear hi); (try clear ho0)) | ((with_reducible refine gate_callee (f := 48) rfl ?_); refine goesL_ (some 33) rfl rfl Try.func48 (by kernel_rfl) rfl #[.slice A0 l0.length c0] rfl mapz ?_; (with_reducible refine (wear_Worst.calls _ _ l0 t589 t590 t591 _ ?side1 ?side2 A8.out).mono ?_); (case side1 => exact cbz HR0); (case side2 => exact HC0.out); rintro e w13 ⟨rfl, hb⟩; refine ⟨_, rfl, ?_⟩; replace HO584 := Aside0.mk (Kd.R_below (ownx HO584) hb); replace HO588 := Aside0.mk (Kd.R_below (ownx HO588) hb); replace HB := Aside0.mk (below_step bel hb); (try clear hb); (try clear hb2); (try clear hk); (try clear hi)) | ((with_reducible refine gate_callee (f := 49) rfl ?_); refine goesL_ (some 39) rfl rfl Try.func49 (by kernel_rfl) rfl #[.slice A0 l0.length c0] rfl mapz ?_; (with_reducible refine (dropperref07_Worst.calls k _ _ l0 t592 t593 t594 _ ?side1 ?side2 A9.out).mono ?_); (case side1 => exact cbz HR0); (case side2 => exact HC0.out); rintro e w14 ⟨rfl, hb⟩; refine ⟨_, rfl, ?_⟩; replace HO584 := Aside0.mk (Kd.R_below (ownx HO584) hb); replace HO588 := Aside0.mk (Kd.R_below (ownx HO588) hb); replace HB := Aside0.mk (below_step bel hb); (try clear hb); (try clear hb2); (try clear hk); (try clear hi)))
  (try simp only [Act.put, List.setIfInBounds_toArray, List.set_cons_zero, List.set_cons_succ])
  go_cut [66] (fun v66 wc => ∃ (kq : Nat) (x66_9 : Bool), v66 = .bool x66_9 ∧ Aside0 (dropperlaw07_WearTotals.j0 kq l0 a1 x66_9 = some r) ∧ Aside0 (kq ≤ k) ∧ Aside0 (Below w.heap.size w wc))
  case first =>
   have H := HC10.out
   clear HC10
   replace H := Option.bind_eq_some_iff.mp H
   obtain ⟨t595, A150, H⟩ := H
   replace H : (if t595 = true then (if t582 = t586 then (if t589 = t592 then (if t590 = t593 then (dropperlaw07_WearTotals.j0 k l0 a1 (t591 != t594)) else (dropperlaw07_WearTotals.j0 k l0 a1 true)) else (dropperlaw07_WearTotals.j0 k l0 a1 true)) else (dropperlaw07_WearTotals.j0 k l0 a1 true)) else (dropperlaw07_WearTotals.j0 k l0 a1 true)) = some r := H
   have A15 := Aside0.mk A150
   clear A150
   by_cases c16 : t595 = true
   ·
    subst c16
    have H1 : (if t582 = t586 then (if t589 = t592 then (if t590 = t593 then (dropperlaw07_WearTotals.j0 k l0 a1 (t591 != t594)) else (dropperlaw07_WearTotals.j0 k l0 a1 true)) else (dropperlaw07_WearTotals.j0 k l0 a1 true)) else (dropperlaw07_WearTotals.j0 k l0 a1 true)) = some r := by rw [if_pos rfl] at H; exact H
    clear H
    have H := H1
    clear H1
    by_cases c17 : t582 = t586
    ·
     rw [if_pos c17] at H
     have c17b0 : (t582 == t586) = true := beq_iff_eq.mpr c17
     have c17b1 : (t582 != t586) = false := bne_eq_false_iff_eq.mpr c17
     clear c17
     (first | rw [c17b0] | (simp only [i64_w, i32_w]; rw [c17b0]) | skip)
     by_cases c18 : t589 = t592
     ·
      rw [if_pos c18] at H
      have c18b0 : (t589 == t592) = true := beq_iff_eq.mpr c18
      have c18b1 : (t589 != t592) = false := bne_eq_false_iff_eq.mpr c18
      clear c18
      by_cases c19 : t590 = t593
      ·
       rw [if_pos c19] at H
       have c19b0 : (t590 == t593) = true := beq_iff_eq.mpr c19
       have c19b1 : (t590 != t593) = false := bne_eq_false_iff_eq.mpr c19
       clear c19
       have H' := Aside0.mk H
       clear H
       obtain ⟨Ao20, co20, eo20⟩ := Kd.R_slice HO584.out
       subst eo20
       obtain ⟨Ao21, co21, eo21⟩ := Kd.R_slice HO588.out
       subst eo21
       go_wp2_with (first | ((with_reducible refine gate_callee (f := 18) rfl ?_); refine goesL_ (some 45) rfl rfl Try.func18 (by kernel_rfl) rfl #[.slice Ao20 t581.length co20, .slice Ao21 t585.length co21] rfl mapz ?_; (with_reducible refine (dropperlaw07_SameInts.calls k _ _ t581 _ _ t585 true _ ?side1 ?side2 ?side3 ?side4 A15.out).mono ?_); (case side1 => repeat (first | exact (Kd.R_reads' HO584.out).2.2 | (with_reducible refine Kd.C_alloc ?_ _) | (with_reducible refine Kd.C_drewN ?_ _) | (with_reducible refine Kd.C_drew ?_))); (case side2 => exact (Kd.R_reads' HO584.out).2.1); (case side3 => repeat (first | exact (Kd.R_reads' HO588.out).2.2 | (with_reducible refine Kd.C_alloc ?_ _) | (with_reducible refine Kd.C_drewN ?_ _) | (with_reducible refine Kd.C_drew ?_))); (case side4 => exact (Kd.R_reads' HO588.out).2.1); rintro e w' ⟨rfl, ⟨nd, rfl⟩⟩; refine ⟨_, rfl, ?_⟩))
       go_meet
       case rel => exact ⟨_, ((t591 != t594)), rsz, H', ⟨by first | omega | exact Nat.le_refl _⟩, ⟨bel⟩⟩
      ·
       rw [if_neg c19] at H
       have c19b0 : (t590 == t593) = false := beq_eq_false_iff_ne.mpr c19
       have c19b1 : (t590 != t593) = true := bne_iff_ne.mpr c19
       have H' := Aside0.mk H
       clear H
       obtain ⟨Ao22, co22, eo22⟩ := Kd.R_slice HO584.out
       subst eo22
       obtain ⟨Ao23, co23, eo23⟩ := Kd.R_slice HO588.out
       subst eo23
       go_wp2_with (first | ((with_reducible refine gate_callee (f := 18) rfl ?_); refine goesL_ (some 45) rfl rfl Try.func18 (by kernel_rfl) rfl #[.slice Ao22 t581.length co22, .slice Ao23 t585.length co23] rfl mapz ?_; (with_reducible refine (dropperlaw07_SameInts.calls k _ _ t581 _ _ t585 true _ ?side1 ?side2 ?side3 ?side4 A15.out).mono ?_); (case side1 => repeat (first | exact (Kd.R_reads' HO584.out).2.2 | (with_reducible refine Kd.C_alloc ?_ _) | (with_reducible refine Kd.C_drewN ?_ _) | (with_reducible refine Kd.C_drew ?_))); (case side2 => exact (Kd.R_reads' HO584.out).2.1); (case side3 => repeat (first | exact (Kd.R_reads' HO588.out).2.2 | (with_reducible refine Kd.C_alloc ?_ _) | (with_reducible refine Kd.C_drewN ?_ _) | (with_reducible refine Kd.C_drew ?_))); (case side4 => exact (Kd.R_reads' HO588.out).2.1); rintro e w' ⟨rfl, ⟨nd, rfl⟩⟩; refine ⟨_, rfl, ?_⟩))
       go_meet
       case rel => exact ⟨_, (true), rsz, H', ⟨by first | omega | exact Nat.le_refl _⟩, ⟨bel⟩⟩
     ·
      rw [if_neg c18] at H
      have c18b0 : (t589 == t592) = false := beq_eq_false_iff_ne.mpr c18
      have c18b1 : (t589 != t592) = true := bne_iff_ne.mpr c18
      have H' := Aside0.mk H
      clear H
      obtain ⟨Ao24, co24, eo24⟩ := Kd.R_slice HO584.out
      subst eo24
      obtain ⟨Ao25, co25, eo25⟩ := Kd.R_slice HO588.out
      subst eo25
      go_wp2_with (first | ((with_reducible refine gate_callee (f := 18) rfl ?_); refine goesL_ (some 45) rfl rfl Try.func18 (by kernel_rfl) rfl #[.slice Ao24 t581.length co24, .slice Ao25 t585.length co25] rfl mapz ?_; (with_reducible refine (dropperlaw07_SameInts.calls k _ _ t581 _ _ t585 true _ ?side1 ?side2 ?side3 ?side4 A15.out).mono ?_); (case side1 => repeat (first | exact (Kd.R_reads' HO584.out).2.2 | (with_reducible refine Kd.C_alloc ?_ _) | (with_reducible refine Kd.C_drewN ?_ _) | (with_reducible refine Kd.C_drew ?_))); (case side2 => exact (Kd.R_reads' HO584.out).2.1); (case side3 => repeat (first | exact (Kd.R_reads' HO588.out).2.2 | (with_reducible refine Kd.C_alloc ?_ _) | (with_reducible refine Kd.C_drewN ?_ _) | (with_reducible refine Kd.C_drew ?_))); (case side4 => exact (Kd.R_reads' HO588.out).2.1); rintro e w' ⟨rfl, ⟨nd, rfl⟩⟩; refine ⟨_, rfl, ?_⟩))
      go_meet
      case rel => exact ⟨_, (true), rsz, H', ⟨by first | omega | exact Nat.le_refl _⟩, ⟨bel⟩⟩
    ·
     rw [if_neg c17] at H
     have c17b0 : (t582 == t586) = false := beq_eq_false_iff_ne.mpr c17
     have c17b1 : (t582 != t586) = true := bne_iff_ne.mpr c17
     (first | rw [c17b0] | (simp only [i64_w, i32_w]; rw [c17b0]) | skip)
     have H' := Aside0.mk H
     clear H
     obtain ⟨Ao26, co26, eo26⟩ := Kd.R_slice HO584.out
     subst eo26
     obtain ⟨Ao27, co27, eo27⟩ := Kd.R_slice HO588.out
     subst eo27
     go_wp2_with (first | ((with_reducible refine gate_callee (f := 18) rfl ?_); refine goesL_ (some 45) rfl rfl Try.func18 (by kernel_rfl) rfl #[.slice Ao26 t581.length co26, .slice Ao27 t585.length co27] rfl mapz ?_; (with_reducible refine (dropperlaw07_SameInts.calls k _ _ t581 _ _ t585 true _ ?side1 ?side2 ?side3 ?side4 A15.out).mono ?_); (case side1 => repeat (first | exact (Kd.R_reads' HO584.out).2.2 | (with_reducible refine Kd.C_alloc ?_ _) | (with_reducible refine Kd.C_drewN ?_ _) | (with_reducible refine Kd.C_drew ?_))); (case side2 => exact (Kd.R_reads' HO584.out).2.1); (case side3 => repeat (first | exact (Kd.R_reads' HO588.out).2.2 | (with_reducible refine Kd.C_alloc ?_ _) | (with_reducible refine Kd.C_drewN ?_ _) | (with_reducible refine Kd.C_drew ?_))); (case side4 => exact (Kd.R_reads' HO588.out).2.1); rintro e w' ⟨rfl, ⟨nd, rfl⟩⟩; refine ⟨_, rfl, ?_⟩))
     go_meet
     case rel => exact ⟨_, (true), rsz, H', ⟨by first | omega | exact Nat.le_refl _⟩, ⟨bel⟩⟩
   ·
    replace c16 := Bool.eq_false_iff.mpr c16
    subst c16
    have H1 : (dropperlaw07_WearTotals.j0 k l0 a1 true) = some r := by rw [if_neg (show ¬ (false = true) by decide)] at H; exact H
    clear H
    have H := H1
    clear H1
    have H' := Aside0.mk H
    clear H
    obtain ⟨Ao28, co28, eo28⟩ := Kd.R_slice HO584.out
    subst eo28
    obtain ⟨Ao29, co29, eo29⟩ := Kd.R_slice HO588.out
    subst eo29
    go_wp2_with (first | ((with_reducible refine gate_callee (f := 18) rfl ?_); refine goesL_ (some 45) rfl rfl Try.func18 (by kernel_rfl) rfl #[.slice Ao28 t581.length co28, .slice Ao29 t585.length co29] rfl mapz ?_; (with_reducible refine (dropperlaw07_SameInts.calls k _ _ t581 _ _ t585 false _ ?side1 ?side2 ?side3 ?side4 A15.out).mono ?_); (case side1 => repeat (first | exact (Kd.R_reads' HO584.out).2.2 | (with_reducible refine Kd.C_alloc ?_ _) | (with_reducible refine Kd.C_drewN ?_ _) | (with_reducible refine Kd.C_drew ?_))); (case side2 => exact (Kd.R_reads' HO584.out).2.1); (case side3 => repeat (first | exact (Kd.R_reads' HO588.out).2.2 | (with_reducible refine Kd.C_alloc ?_ _) | (with_reducible refine Kd.C_drewN ?_ _) | (with_reducible refine Kd.C_drew ?_))); (case side4 => exact (Kd.R_reads' HO588.out).2.1); rintro e w' ⟨rfl, ⟨nd, rfl⟩⟩; refine ⟨_, rfl, ?_⟩))
    go_meet
    case rel => exact ⟨_, (true), rsz, H', ⟨by first | omega | exact Nat.le_refl _⟩, ⟨bel⟩⟩
  case rest =>
   clear HC10
   try clear c1
   try clear p2
   try clear c3
   try clear c3b0
   try clear c3b1
   try clear c4
   try clear c13
   try clear c15
   try clear c16
   try clear c17
   try clear c17b0
   try clear c17b1
   try clear c18
   try clear c18b0
   try clear c18b1
   try clear c19
   try clear c19b0
   try clear c19b1
   obtain ⟨kq, x66_9, rfl, HA, HJ9, HB⟩ := hcut
   cases kq with
   | zero => exact absurd HA.out (by simp [dropperlaw07_WearTotals.j0])
   | succ kj9 =>
    have H := HA.out
    clear HA
    simp only [dropperlaw07_WearTotals.j0] at H
    by_cases c30 : x66_9 = true
    ·
     subst c30
     have H1 : (none) = some r := by rw [if_pos rfl] at H; exact H
     clear H
     have H := H1
     clear H1
     exact absurd H (by simp)
    ·
     replace c30 := Bool.eq_false_iff.mpr c30
     subst c30
     have H1 : ((wear_Over.f l0 a1).bind fun bt596 => ((dropperref07_Over.f kj9 l0 a1).bind fun bt600 => ((dropperlaw07_SameInts.f kj9 bt596.1 bt600.1).bind fun t604 => (if t604 = true then (if bt596.2 = bt600.2 then ((dropperlaw07_First.f kj9).bind fun t605 => (some t605)) else (none)) else (none))))) = some r := by rw [if_neg (show ¬ (false = true) by decide)] at H; exact H
     clear H
     have H := H1
     clear H1
     replace H := Option.bind_eq_some_iff.mp H
     obtain ⟨⟨t596, t597⟩, A310, H⟩ := H
     replace H : ((dropperref07_Over.f kj9 l0 a1).bind fun bt600 => ((dropperlaw07_SameInts.f kj9 t596 bt600.1).bind fun t604 => (if t604 = true then (if t597 = bt600.2 then ((dropperlaw07_First.f kj9).bind fun t605 => (some t605)) else (none)) else (none)))) = some r := H
     have A31 := Aside0.mk A310
     clear A310
     replace H := Option.bind_eq_some_iff.mp H
     obtain ⟨⟨t600, t601⟩, A320, H⟩ := H
     replace H : ((dropperlaw07_SameInts.f kj9 t596 t600).bind fun t604 => (if t604 = true then (if t597 = t601 then ((dropperlaw07_First.f kj9).bind fun t605 => (some t605)) else (none)) else (none))) = some r := H
     have A32 := Aside0.mk A320
     clear A320
     replace H := Option.bind_eq_some_iff.mp H
     obtain ⟨t604, A330, H⟩ := H
     replace H : (if t604 = true then (if t597 = t601 then ((dropperlaw07_First.f kj9).bind fun t605 => (some t605)) else (none)) else (none)) = some r := H
     have A33 := Aside0.mk A330
     clear A330
     by_cases c34 : t604 = true
     ·
      subst c34
      have H1 : (if t597 = t601 then ((dropperlaw07_First.f kj9).bind fun t605 => (some t605)) else (none)) = some r := by rw [if_pos rfl] at H; exact H
      clear H
      have H := H1
      clear H1
      by_cases c35 : t597 = t601
      ·
       rw [if_pos c35] at H
       have c35b0 : (t597 == t601) = true := beq_iff_eq.mpr c35
       have c35b1 : (t597 != t601) = false := bne_eq_false_iff_eq.mpr c35
       clear c35
       replace H := Option.bind_eq_some_iff.mp H
       obtain ⟨t605, A360, H⟩ := H
       replace H : (some t605) = some r := H
       have A36 := Aside0.mk A360
       clear A360
       obtain rfl := Option.some.inj H
       go_wp2_with (first | ((with_reducible refine gate_callee (f := 50) rfl ?_); refine goesL_ (some 70) rfl rfl Try.func50 (by kernel_rfl) rfl #[.slice A0 l0.length c0, .int .i64 a1] rfl mapz ?_; (with_reducible refine (wear_Over.calls _ _ l0 a1 t596 t597 _ ?side1 ?side2 A31.out).mono ?_); (case side1 => exact cbz HR0); (case side2 => exact HC0.out); rintro e w37 ⟨v598, rfl, ho0, hb⟩; refine ⟨_, rfl, ?_⟩; have HO599 := Aside0.mk (Kd.R_lower ho0 (below_size bel)); replace HB := Aside0.mk (below_step bel hb); (try clear hb); (try clear hb2); (try clear hk); (try clear hi); (try clear ho0)) | ((with_reducible refine gate_callee (f := 51) rfl ?_); refine goesL_ (some 76) rfl rfl Try.func51 (by kernel_rfl) rfl #[.slice A0 l0.length c0, .int .i64 a1] rfl mapz ?_; (with_reducible refine (dropperref07_Over.calls kj9 _ _ l0 a1 t600 t601 _ ?side1 ?side2 A32.out).mono ?_); (case side1 => exact cbz HR0); (case side2 => exact HC0.out); rintro e w38 ⟨v602, rfl, ho0, hb⟩; refine ⟨_, rfl, ?_⟩; have HO603 := Aside0.mk (Kd.R_lower (Kd.R_new' ho0 (Kd.R_lt (ownx HO599))) (below_size bel)); replace HO599 := Aside0.mk (Kd.R_elder' (ownx HO599) (Kd.R_base ho0) hb); replace HB := Aside0.mk (below_step bel hb); (try clear hb); (try clear hb2); (try clear hk); (try clear hi); (try clear ho0); obtain ⟨Ao39, co39, eo39⟩ := Kd.R_slice HO599.out; subst eo39; obtain ⟨Ao40, co40, eo40⟩ := Kd.R_slice HO603.out; subst eo40) | ((with_reducible refine gate_callee (f := 18) rfl ?_); refine goesL_ (some 81) rfl rfl Try.func18 (by kernel_rfl) rfl #[.slice Ao39 t596.length co39, .slice Ao40 t600.length co40] rfl mapz ?_; (with_reducible refine (dropperlaw07_SameInts.calls kj9 _ _ t596 _ _ t600 true _ ?side1 ?side2 ?side3 ?side4 A33.out).mono ?_); (case side1 => repeat (first | exact (Kd.R_reads' HO599.out).2.2 | (with_reducible refine Kd.C_alloc ?_ _) | (with_reducible refine Kd.C_drewN ?_ _) | (with_reducible refine Kd.C_drew ?_))); (case side2 => exact (Kd.R_reads' HO599.out).2.1); (case side3 => repeat (first | exact (Kd.R_reads' HO603.out).2.2 | (with_reducible refine Kd.C_alloc ?_ _) | (with_reducible refine Kd.C_drewN ?_ _) | (with_reducible refine Kd.C_drew ?_))); (case side4 => exact (Kd.R_reads' HO603.out).2.1); rintro e w' ⟨rfl, ⟨nd, rfl⟩⟩; refine ⟨_, rfl, ?_⟩) | (go_at_call 15; (with_reducible refine (dropperlaw07_First.calls kj9  t605 _ A36.out).mono ?_); rintro e w41 ⟨rfl, hb⟩; replace HO599 := Aside0.mk (Kd.R_below (ownx HO599) hb); replace HO603 := Aside0.mk (Kd.R_below (ownx HO603) hb); replace HB := Aside0.mk (below_step bel hb); (try clear hb); (try clear hb2); (try clear hk); (try clear hi)))
       go_ret
       exact ⟨ezz, bel⟩
      ·
       rw [if_neg c35] at H
       exact absurd H (by simp)
     ·
      replace c34 := Bool.eq_false_iff.mpr c34
      subst c34
      have H1 : (none) = some r := by rw [if_neg (show ¬ (false = true) by decide)] at H; exact H
      clear H
      have H := H1
      clear H1
      exact absurd H (by simp)

end Go.Proofs.Ytpdcpekjafcohaa.XWear
-- Written by wip/xprint.py of this repo, over the kit's print.py: out of the translation; the oracles in it are by hand. Not trusted: Lean checks it.
namespace Go.Proofs.Ytpdcpekjafcohaa.XWear
open Go.RowKit Go.Proofs.Ytpdcpekjafcohaa.XWear Go.Proofs.YtpdcpekjafcohaaW.PrintWords Go.Proofs.YtpdcpekjafcohaaW.PrintLast Go.Proofs.YtpdcpekjafcohaaW.PrintMore
def dropperlaw07_WearTotals.Pure : Prop := ∀ (l0 : List (S55)) (a1 : Int), (l0.length ≤ 9223372036854775807 ∧ ∀ y0 ∈ l0, ((Lit.int .i64 y0.f0).wf = true) ∧ ((Lit.int .i64 y0.f1).wf = true) ∧ ((Lit.int .i64 y0.f2).wf = true)) → ((Lit.int .i64 a1).wf = true) → ∃ k, dropperlaw07_WearTotals.f k l0 a1 = some true
end Go.Proofs.Ytpdcpekjafcohaa.XWear

namespace Go.Proofs.Ytpdcpekjafcohaa.XWear
open Go.RowKit Go.Proofs.YtpdcpekjafcohaaW.PrintWords Go.Proofs.YtpdcpekjafcohaaW.PrintLast Go.Proofs.YtpdcpekjafcohaaW.PrintMore
attribute [local go_sem] max2_int min2_int max_two min_two max_three min_three max_four min_four   -- for this text's walks alone
set_option linter.unusedVariables false
set_option linter.unusedSimpArgs false
/-! ### dropperref07_Valid: function 19 -/
def dropperref07_Valid.l0 : Nat → List Int → Int → Option (Bool)
 | 0, _, _ => none
 | k + 1, x0, x3 => if x3 < (x0.length : Int) then (if 0 ≤ x3 then (if (rd x0 x3) < 0 then (some false) else (if (rd x0 x3) > 10000 then (some false) else (dropperref07_Valid.l0 k x0 (wrap64 (x3 + 1))))) else (none)) else (if (x0.length : Int) ≥ 1 then (some (decide ((x0.length : Int) ≤ 40))) else (some false))
/-! ### dropperref07_asked: function 54 -/
/-! ### dropperref07_middle: function 80 -/
mutual
def dropperref07_middle.l0 : Nat → List Int → Int → Option (Int)
 | 0, _, _ => none
 | k + 1, x0, x3 => if x3 < (x0.length : Int) then (dropperref07_middle.l1 k x0 x3 0 0 0) else (some 0)
def dropperref07_middle.l1 : Nat → List Int → Int → Int → Int → Int → Option (Int)
 | 0, _, _, _, _, _ => none
 | k + 1, x0, x3, x4, x5, x6 => if x6 < (x0.length : Int) then (if 0 ≤ x6 then (if 0 ≤ x3 then (if x3 < (x0.length : Int) then (if (rd x0 x6) < (rd x0 x3) then (if (rd x0 x6) = (rd x0 x3) then (dropperref07_middle.l1 k x0 x3 (wrap64 (x4 + 1)) (wrap64 (x5 + 1)) (wrap64 (x6 + 1))) else (dropperref07_middle.l1 k x0 x3 (wrap64 (x4 + 1)) x5 (wrap64 (x6 + 1)))) else (if (rd x0 x6) = (rd x0 x3) then (dropperref07_middle.l1 k x0 x3 x4 (wrap64 (x5 + 1)) (wrap64 (x6 + 1))) else (dropperref07_middle.l1 k x0 x3 x4 x5 (wrap64 (x6 + 1))))) else (none)) else (none)) else (none)) else (if x4 ≤ (wrap64 ((x0.length : Int) / 2)) then (if (wrap64 ((x0.length : Int) / 2)) < (wrap64 (x4 + x5)) then (if 0 ≤ x3 then (if x3 < (x0.length : Int) then (some (rd x0 x3)) else (none)) else (none)) else (dropperref07_middle.l0 k x0 (wrap64 (x3 + 1)))) else (dropperref07_middle.l0 k x0 (wrap64 (x3 + 1))))
end
def dropperref07_middle.f (k : Nat) (l0 : List Int) : Option (Int) := dropperref07_middle.l0 k l0 0
/-! ### dropperref07_median: function 55 -/
mutual
def dropperref07_median.l0 : Nat → List Int → Int → List Int → Int → Option (List Int)
 | 0, _, _, _, _ => none
 | k + 1, x0, x1, x5, x6 => if x6 < (x0.length : Int) then (dropperref07_median.l1 k x0 x1 x5 x6 ([] : List Int) (wrap64 (x6 - x1))) else (some x5)
def dropperref07_median.l1 : Nat → List Int → Int → List Int → Int → List Int → Int → Option (List Int)
 | 0, _, _, _, _, _, _ => none
 | k + 1, x0, x1, x5, x6, x7, x8 => if x8 ≤ (wrap64 (x6 + x1)) then (if 0 ≤ (mn (mx x8 0) (wrap64 ((x0.length : Int) - 1))) then (if (mn (mx x8 0) (wrap64 ((x0.length : Int) - 1))) < (x0.length : Int) then (if x7.length < 17592186044416 then (dropperref07_median.l1 k x0 x1 x5 x6 (x7 ++ [rd x0 (mn (mx x8 0) (wrap64 ((x0.length : Int) - 1)))]) (wrap64 (x8 + 1))) else (none)) else (none)) else (none)) else ((dropperref07_middle.f k x7).bind fun t205 => (if x5.length < 17592186044416 then (dropperref07_median.l0 k x0 x1 (x5 ++ [t205]) (wrap64 (x6 + 1))) else (none)))
end
def dropperref07_median.f (k : Nat) (l0 : List Int) (a1 : Int) : Option (List Int) := dropperref07_median.l0 k l0 a1 ([] : List Int) 0
/-! ### dropperref07_Median: function 17 -/
end Go.Proofs.Ytpdcpekjafcohaa.XWear
namespace Go.Proofs.Ytpdcpekjafcohaa.Plain
set_option linter.unusedVariables false
set_option linter.unusedSimpArgs false
open Go.RowKit Go.Proofs.Ytpdcpekjafcohaa.XWear Go.Proofs.YtpdcpekjafcohaaW.PrintWords Go.Proofs.YtpdcpekjafcohaaW.PrintLast Go.Proofs.YtpdcpekjafcohaaW.PrintMore

/-! ### rounds -/
theorem ev_const {α : Type} {o : Option α} {r : α} (h : o = some r) : Ev (fun _ => o) r := ⟨0, fun _ _ => h⟩
theorem ev_pos {α : Type} {c : Prop} [Decidable c] {a b : Nat → Option α} {r : α} (hc : c) (h : Ev a r) : Ev (fun k => if c then a k else b k) r :=
 Ev.congr (fun k => if_pos hc) h
theorem ev_neg {α : Type} {c : Prop} [Decidable c] {a b : Nat → Option α} {r : α} (hc : ¬ c) (h : Ev b r) : Ev (fun k => if c then a k else b k) r :=
 Ev.congr (fun k => if_neg hc) h
theorem ev_some {α β : Type} {a : α} {f : Nat → α → Option β} {r : β} (h : Ev (fun k => f k a) r) : Ev (fun k => (some a).bind (f k)) r := h
theorem wrap_id {x : Int} (h0 : -9223372036854775808 ≤ x) (h1 : x ≤ 9223372036854775807) : wrap64 x = x := by unfold wrap64; omega
theorem wrap_succ (n : Nat) (h : n ≤ 4000000000000000000) : wrap64 ((n : Int) + 1) = ((n + 1 : Nat) : Int) := by rw [wrap_id] <;> omega
theorem rd_eq (l : List Int) (i : Nat) (h : i < l.length) : rd l (i : Int) = l[i] := by simp [rd, List.getD_eq_getElem?_getD, h]

/-! ### valid readings -/
def ok (l : List Int) : Bool := decide (1 ≤ l.length) && decide (l.length ≤ 40) && l.all fun x => decide (0 ≤ x) && decide (x ≤ 10000)
theorem ok_iff (l : List Int) : ok l = true ↔ 1 ≤ l.length ∧ l.length ≤ 40 ∧ ∀ x ∈ l, 0 ≤ x ∧ x ≤ 10000 := by
 simp [ok, and_assoc]
theorem valid_f (l : List Int) : wear_Valid.f l = some (ok l) := rfl

/-! ### SameInts -/
theorem same_l (a b : List Int) (hab : a.length = b.length) (hl : a.length ≤ 4000000000000000000) : ∀ (d i : Nat), i + d = a.length → a.take i = b.take i →
  Ev (fun k => dropperlaw07_SameInts.l0 k a b (i : Int)) (decide (a = b)) := by
 intro d
 induction d with
 | zero =>
  intro i hi hb
  refine Ev.step (fun k => by rw [dropperlaw07_SameInts.l0]) ?_
  refine ev_neg (by omega) (ev_const ?_)
  rw [List.take_of_length_le (by omega), List.take_of_length_le (by omega)] at hb
  simp [hb]
 | succ d ih =>
  intro i hi hb
  refine Ev.step (fun k => by rw [dropperlaw07_SameInts.l0]) ?_
  refine ev_pos (by omega) (ev_pos (by omega) (ev_pos (by omega) ?_))
  rw [rd_eq a i (by omega), rd_eq b i (by omega)]
  by_cases h : a[i]'(by omega) = b[i]'(by omega)
  ·
   refine ev_pos h ?_
   have e : wrap64 ((i : Int) + 1) = ((i + 1 : Nat) : Int) := by rw [wrap_id] <;> omega
   rw [e]
   refine ih (i + 1) (by omega) ?_
   rw [List.take_succ_eq_append_getElem (by omega), List.take_succ_eq_append_getElem (by omega), hb, h]
  ·
   refine ev_neg h (ev_const ?_)
   congr 1
   symm
   rw [decide_eq_false_iff_not]
   rintro rfl
   exact h rfl
theorem same (a b : List Int) (hl : a.length ≤ 4000000000000000000) : Ev (fun k => dropperlaw07_SameInts.f k a b) (decide (a = b)) := by
 unfold dropperlaw07_SameInts.f
 by_cases h : a.length = b.length
 ·
  exact ev_pos (by omega) (same_l a b h hl a.length 0 (by omega) (by simp))
 ·
  refine ev_neg (by omega) (ev_const ?_)
  congr 1
  symm
  rw [decide_eq_false_iff_not]
  rintro rfl
  exact h rfl

/-! ### medians: the windows -/
def cl (l : List Int) (z : Int) : Int := rd l (mn (mx z 0) (wrap64 ((l.length : Int) - 1)))
def winFrom (l : List Int) (z : Int) (m : Nat) : List Int := (List.range m).map fun j => cl l (z + (j : Nat))
def win (l : List Int) (w i : Nat) : List Int := winFrom l ((i : Int) - (w : Int)) (2 * w + 1)
theorem winFrom_succ (l : List Int) (z : Int) (m : Nat) : winFrom l z (m + 1) = winFrom l z m ++ [cl l (z + (m : Nat))] := by
 simp [winFrom, List.range_succ]
theorem win_len (l : List Int) (w i : Nat) : (win l w i).length = 2 * w + 1 := by simp [win, winFrom]
theorem cl_in {l : List Int} (z : Int) (h : 1 ≤ l.length) (h2 : l.length ≤ 40) : 0 ≤ mn (mx z 0) (wrap64 ((l.length : Int) - 1)) ∧ mn (mx z 0) (wrap64 ((l.length : Int) - 1)) < (l.length : Int) := by
 rw [wrap_id (by omega) (by omega)]
 unfold mn mx
 constructor <;> (repeat split) <;> omega
def srt (l : List Int) : List Int := l.mergeSort fun x y => decide (x ≤ y)
theorem sort_f (l : List Int) (h : l ≠ []) (h2 : l.length ≤ 1000) : slices_Sort_int_int.f l = some (srt l) := by
 unfold slices_Sort_int_int.f
 rw [if_neg]; · rfl
 intro h3
 rcases h3 with h3 | h3
 ·
  exact h h3
 ·
  omega
def med (l : List Int) (w : Nat) : List Int := (List.range l.length).map fun i => rd (srt (win l w i)) (w : Int)
def medTo (l : List Int) (w i : Nat) : List Int := (List.range i).map fun i => rd (srt (win l w i)) (w : Int)
theorem medTo_succ (l : List Int) (w i : Nat) : medTo l w (i + 1) = medTo l w i ++ [rd (srt (win l w i)) (w : Int)] := by simp [medTo, List.range_succ]

theorem median_l1 {r : List Int} (l : List Int) (w i : Nat) (acc : List Int) (x10 x11 : Int) (h1 : 1 ≤ l.length) (h2 : l.length ≤ 40) (hi : i < l.length) (hw : w ≤ 10) (ha : acc.length ≤ 40)
  (hr : Ev (fun k => wear_median.l0 k l (w : Int) (acc ++ [rd (srt (win l w i)) (w : Int)]) x10 (wrap64 (x11 + 1))) r) :
  ∀ (d j : Nat), j + d = 2 * w + 1 → Ev (fun k => wear_median.l1 k l (w : Int) acc (i : Int) (winFrom l ((i : Int) - (w : Int)) j) ((i : Int) - (w : Int) + (j : Nat)) x10 x11) r := by
 intro d
 induction d with
 | zero =>
  intro j hj
  obtain rfl : j = 2 * w + 1 := by omega
  refine Ev.step (fun k => by rw [wear_median.l1]) ?_
  have hs : wrap64 ((i : Int) + (w : Int)) = (i : Int) + (w : Int) := wrap_id (by omega) (by omega)
  refine ev_neg (by rw [hs]; omega) ?_
  have hne : winFrom l ((i : Int) - (w : Int)) (2 * w + 1) ≠ [] := by simp [winFrom]
  have hlen : (winFrom l ((i : Int) - (w : Int)) (2 * w + 1)).length = 2 * w + 1 := win_len l w i
  rw [sort_f _ hne (by omega)]
  refine ev_some (ev_pos (by omega) (ev_pos (by omega) (ev_pos (by omega) ?_)))
  exact hr
 | succ d ih =>
  intro j hj
  refine Ev.step (fun k => by rw [wear_median.l1]) ?_
  have hs : wrap64 ((i : Int) + (w : Int)) = (i : Int) + (w : Int) := wrap_id (by omega) (by omega)
  have hc := cl_in (l := l) ((i : Int) - (w : Int) + (j : Nat)) h1 h2
  have hlen : (winFrom l ((i : Int) - (w : Int)) j).length = j := by simp [winFrom]
  refine ev_pos (by rw [hs]; omega) (ev_pos hc.1 (ev_pos hc.2 (ev_pos (by omega) ?_)))
  have e : wrap64 ((i : Int) - (w : Int) + (j : Nat) + 1) = (i : Int) - (w : Int) + ((j + 1 : Nat) : Int) := by rw [wrap_id] <;> omega
  rw [e]
  have := ih (j + 1) (by omega)
  rw [winFrom_succ] at this
  exact this
theorem median_l0 (l : List Int) (w : Nat) (h1 : 1 ≤ l.length) (h2 : l.length ≤ 40) (hw : w ≤ 10) : ∀ (d i : Nat), i + d = l.length →
  Ev (fun k => wear_median.l0 k l (w : Int) (medTo l w i) (l.length : Int) (i : Int)) (med l w) := by
 intro d
 induction d with
 | zero =>
  intro i hi
  obtain rfl : i = l.length := by omega
  refine Ev.step (fun k => by rw [wear_median.l0]) ?_
  exact ev_neg (by omega) (ev_const rfl)
 | succ d ih =>
  intro i hi
  refine Ev.step (fun k => by rw [wear_median.l0]) ?_
  refine ev_pos (by omega) ?_
  have e0 : wrap64 ((i : Int) - (w : Int)) = (i : Int) - (w : Int) + ((0 : Nat) : Int) := by rw [wrap_id] <;> omega
  rw [e0]
  have e1 : wrap64 ((i : Int) + 1) = ((i + 1 : Nat) : Int) := by rw [wrap_id] <;> omega
  refine median_l1 l w i (medTo l w i) _ _ h1 h2 (by omega) hw (by simp [medTo]; omega) ?_ (2 * w + 1) 0 (by omega)
  rw [← medTo_succ, e1]
  exact ih (i + 1) (by omega)
theorem median_ev (l : List Int) (w : Nat) (h1 : 1 ≤ l.length) (h2 : l.length ≤ 40) (hw : w ≤ 10) : Ev (fun k => wear_median.f k l (w : Int)) (med l w) :=
 median_l0 l w h1 h2 hw l.length 0 (by omega)

theorem within_f (a b c : Int) : wear_within.f a b c = some (decide (a ≤ b ∧ b ≤ c)) := by
 unfold wear_within.f
 by_cases h : a ≤ b
 ·
  rw [if_pos h]; simp [h]
 ·
  rw [if_neg h]; simp [h]
theorem Median_ev (l : List Int) (w : Int) : Ev (fun k => wear_Median.f k l w) (if ok l = true then (if 0 ≤ w ∧ w ≤ 10 then (med l w.toNat, 0) else ([], 2)) else ([], 70)) := by
 unfold wear_Median.f
 rw [valid_f]
 refine ev_some ?_
 by_cases h : ok l = true
 ·
  have h' := (ok_iff l).1 h
  rw [if_pos h]
  refine ev_pos h ?_
  rw [within_f]
  refine ev_some ?_
  by_cases hw : 0 ≤ w ∧ w ≤ 10
  ·
   rw [if_pos hw]
   refine ev_pos (by simpa using hw) ?_
   obtain ⟨n, rfl⟩ := Int.eq_ofNat_of_zero_le hw.1
   exact Ev.bind (median_ev l n h'.1 h'.2.1 (by omega)) (Ev.now _)
  ·
   rw [if_neg hw]
   exact ev_neg (by simpa using hw) (Ev.now _)
 ·
  rw [if_neg h]
  exact ev_neg h (Ev.now _)

/-! ### the document's middle -/
def cntLt (l : List Int) (x : Int) : Nat := l.countP fun y => decide (y < x)
def cntEq (l : List Int) (x : Int) : Nat := l.countP fun y => decide (y = x)
def isMid (l : List Int) (x : Int) : Bool := decide (cntLt l x ≤ l.length / 2) && decide (l.length / 2 < cntLt l x + cntEq l x)
def mid (l : List Int) : Int := (l.find? (isMid l)).getD 0
/-! ### the document's medians -/
def medR (l : List Int) (w : Nat) : List Int := (List.range l.length).map fun i => mid (win l w i)
/-! ### the middle of a sorted row -/
theorem srt_perm (l : List Int) : (srt l).Perm l := List.mergeSort_perm _ _
theorem srt_len (l : List Int) : (srt l).length = l.length := (srt_perm l).length_eq
theorem srt_sorted (l : List Int) : (srt l).Pairwise (· ≤ ·) := by
 have h := List.pairwise_mergeSort (le := fun x y : Int => decide (x ≤ y)) (fun a b c h1 h2 => by simp at *; omega) (fun a b => by simp; omega) l
 exact h.imp (fun h => by simpa using h)
theorem sorted_count (x : Int) : ∀ (s : List Int), s.Pairwise (· ≤ ·) → ∀ j (h : j < s.length), (s[j] < x ↔ j < s.countP fun y => decide (y < x)) ∧ (s[j] ≤ x ↔ j < s.countP fun y => decide (y ≤ x)) := by
 intro s
 induction s with
 | nil => intro _ j h; simp at h
 | cons a s ih =>
  intro hs j h
  rw [List.pairwise_cons] at hs
  have key1 : ¬ a < x → s.countP (fun y => decide (y < x)) = 0 := by
   intro hax
   rw [List.countP_eq_zero]
   intro y hy
   have := hs.1 y hy
   simp; omega
  have key2 : ¬ a ≤ x → s.countP (fun y => decide (y ≤ x)) = 0 := by
   intro hax
   rw [List.countP_eq_zero]
   intro y hy
   have := hs.1 y hy
   simp; omega
  cases j with
  | zero =>
   simp only [List.getElem_cons_zero, List.countP_cons, decide_eq_true_eq]
   constructor
   ·
    by_cases c : a < x
    ·
     simp [c]
    ·
     simp [c, key1 c]
   ·
    by_cases c : a ≤ x
    ·
     simp [c]
    ·
     simp [c, key2 c]
  | succ j =>
   have hj : j < s.length := by simpa using h
   obtain ⟨i1, i2⟩ := ih hs.2 j hj
   have hm := hs.1 s[j] (List.getElem_mem hj)
   simp only [List.getElem_cons_succ, List.countP_cons, decide_eq_true_eq]
   constructor
   ·
    by_cases c : a < x
    ·
     simp [c, i1]
    ·
     simp only [c, if_false, Nat.add_zero, key1 c]
     constructor
     ·
      intro h2; omega
     ·
      intro h2; omega
   ·
    by_cases c : a ≤ x
    ·
     simp [c, i2]
    ·
     simp only [c, if_false, Nat.add_zero, key2 c]
     constructor
     ·
      intro h2; omega
     ·
      intro h2; omega
theorem count_le_split (l : List Int) (x : Int) : (l.countP fun y => decide (y ≤ x)) = cntLt l x + cntEq l x := by
 unfold cntLt cntEq
 induction l with
 | nil => rfl
 | cons a l ih =>
  simp only [List.countP_cons, decide_eq_true_eq, ih]
  rcases Int.lt_trichotomy a x with h | h | h
  ·
   have h1 : a ≤ x := by omega
   have h2 : ¬ a = x := by omega
   simp only [h, h1, h2, if_true, if_false]; omega
  ·
   subst h; simp only [Int.le_refl, Int.lt_irrefl, if_true, if_false]; omega
  ·
   have h1 : ¬ a ≤ x := by omega
   have h2 : ¬ a = x := by omega
   have h3 : ¬ a < x := by omega
   simp only [h1, h2, h3, if_false]; omega
theorem isMid_iff (l : List Int) (x : Int) (hl : 0 < l.length) : isMid l x = true ↔ (srt l)[l.length / 2]'(by rw [srt_len]; omega) = x := by
 have hj : l.length / 2 < (srt l).length := by rw [srt_len]; omega
 obtain ⟨h1, h2⟩ := sorted_count x (srt l) (srt_sorted l) (l.length / 2) hj
 have e1 : (srt l).countP (fun y => decide (y < x)) = cntLt l x := (srt_perm l).countP_eq _
 have e2 : (srt l).countP (fun y => decide (y ≤ x)) = cntLt l x + cntEq l x := ((srt_perm l).countP_eq _).trans (count_le_split l x)
 rw [e1] at h1
 rw [e2] at h2
 simp only [isMid, Bool.and_eq_true, decide_eq_true_eq]
 constructor
 ·
  rintro ⟨a, b⟩
  have c1 := h2.2 b
  have c2 : ¬ (srt l)[l.length / 2] < x := fun h => by have := h1.1 h; omega
  omega
 ·
  intro h
  have c1 := h2.1 (by omega)
  have c2 : ¬ l.length / 2 < cntLt l x := fun hh => by have := h1.2 hh; omega
  exact ⟨by omega, c1⟩
theorem mid_eq (l : List Int) (hl : 0 < l.length) : mid l = rd (srt l) ((l.length / 2 : Nat) : Int) := by
 have hj : l.length / 2 < (srt l).length := by rw [srt_len]; omega
 rw [rd_eq _ _ hj]
 have hm : (srt l)[l.length / 2] ∈ l := (srt_perm l).mem_iff.1 (List.getElem_mem hj)
 unfold mid
 cases hf : l.find? (isMid l) with
 | none =>
  rw [List.find?_eq_none] at hf
  exact absurd ((isMid_iff l _ hl).2 rfl) (hf _ hm)
 | some x =>
  have := List.find?_some hf
  rw [isMid_iff l x hl] at this
  simp [this]
theorem med_eq (l : List Int) (w : Nat) : medR l w = med l w := by
 unfold medR med
 apply List.map_congr_left
 intro i _
 rw [mid_eq _ (by rw [win_len]; omega), win_len]
 congr 2
 omega

/-! ### the examples -/
theorem first_near : wear_Nearest.f 60 [1, 3, 2, 4] = some ([⟨1, 1⟩, ⟨5, 2⟩, ⟨5, 2⟩, ⟨4, 1⟩], 0) := by kernel_rfl
theorem first_med : med [1, 9, 2, 3] 1 = [1, 2, 3, 3] := by rw [← med_eq]; decide +kernel
theorem first_same : dropperlaw07_SameRatios.f 60 [⟨1, 1⟩, ⟨5, 2⟩, ⟨5, 2⟩, ⟨4, 1⟩] [⟨1, 1⟩, ⟨5, 2⟩, ⟨5, 2⟩, ⟨4, 1⟩] = some true := by kernel_rfl
theorem first_ev : Ev (fun k => dropperlaw07_First.f k) true := by
 unfold dropperlaw07_First.f
 refine Ev.bind (Ev.of (wear_Nearest.mono _) first_near) ?_
 have h1 := Median_ev [1, 9, 2, 3] 1
 rw [if_pos (by decide), if_pos (by decide)] at h1
 have h2 : med [1, 9, 2, 3] (1 : Int).toNat = [1, 2, 3, 3] := first_med
 rw [h2] at h1
 refine Ev.bind h1 ?_
 refine ev_pos rfl (ev_pos rfl ?_)
 refine Ev.bind (Ev.of (dropperlaw07_SameRatios.mono _ _) first_same) (ev_pos rfl ?_)
 exact Ev.bind (same [1, 2, 3, 3] [1, 2, 3, 3] (by decide)) (Ev.now _)
end Go.Proofs.Ytpdcpekjafcohaa.Plain

/- Runs: what program and document add up for each span, the span with the most, the spans over a limit. -/
namespace Go.Proofs.Ytpdcpekjafcohaa.Plain
set_option linter.unusedVariables false
set_option linter.unusedSimpArgs false
open Go.RowKit Go.Proofs.Ytpdcpekjafcohaa.XWear Go.Proofs.YtpdcpekjafcohaaW.PrintWords Go.Proofs.YtpdcpekjafcohaaW.PrintLast Go.Proofs.YtpdcpekjafcohaaW.PrintMore

def ROk (x : S55) : Prop := 0 ≤ x.f0 ∧ x.f0 ≤ x.f1 ∧ x.f1 < 60 ∧ 1 ≤ x.f2 ∧ x.f2 ≤ 1000000
instance (x : S55) : Decidable (ROk x) := inferInstanceAs (Decidable (_ ∧ _))
def Runs (l : List S55) : Prop := l.length ≤ 40 ∧ ∀ x ∈ l, ROk x
instance (l : List S55) : Decidable (Runs l) := inferInstanceAs (Decidable (_ ∧ _))
def rone (x : S55) (k : Int) : Int := if x.f0 ≤ k ∧ k ≤ x.f1 then x.f2 else 0
def rval : List S55 → Int → Int
 | [], _ => 0
 | x :: t, k => rone x k + rval t k
def tabl (n : Nat) (g : Nat → Int) : List Int := (List.range n).map g
def rtot (l : List S55) : List Int := tabl 60 fun k => rval l (k : Int)

theorem tabl_len (n : Nat) (g : Nat → Int) : (tabl n g).length = n := by simp [tabl]
theorem rd_tabl (n : Nat) (g : Nat → Int) (i : Nat) (h : i < n) : rd (tabl n g) (i : Int) = g i := by
 rw [rd_eq _ i (by rw [tabl_len]; exact h)]
 simp [tabl]
theorem tabl_congr {n : Nat} {g h : Nat → Int} (e : ∀ j, j < n → g j = h j) : tabl n g = tabl n h := by
 unfold tabl
 refine List.map_congr_left fun j hj => e j (List.mem_range.1 hj)
theorem tabl_set (n : Nat) (g : Nat → Int) (i : Nat) (v : Int) : (tabl n g).set i v = tabl n fun j => if j = i then v else g j := by
 refine List.ext_getElem (by simp [tabl]) fun j h1 h2 => ?_
 rw [List.getElem_set]
 simp only [tabl, List.getElem_map, List.getElem_range]
 by_cases h : i = j
 ·
  rw [if_pos h, if_pos h.symm]
 ·
  rw [if_neg h, if_neg (fun e => h e.symm)]
theorem tabl_succ (n : Nat) (g : Nat → Int) : tabl (n + 1) g = tabl n g ++ [g n] := by simp [tabl, List.range_succ]
theorem tabl_take (n i : Nat) (g : Nat → Int) (h : i ≤ n) : (tabl n g).take i = tabl i g := by
 unfold tabl
 rw [← List.map_take, List.take_range, Nat.min_eq_left h]

theorem rone_bd {x : S55} (h : ROk x) (k : Int) : 0 ≤ rone x k ∧ rone x k ≤ 1000000 := by
 obtain ⟨h0, h1, h2, h3, h4⟩ := h
 unfold rone
 split <;> omega
theorem rval_bd : ∀ {l : List S55} (h : ∀ x ∈ l, ROk x) (k : Int), 0 ≤ rval l k ∧ rval l k ≤ 1000000 * (l.length : Int)
 | [], _, _ => by simp [rval]
 | x :: t, h, k => by
  have a := rone_bd (h x (by simp)) k
  have b := rval_bd (l := t) (fun y hy => h y (by simp [hy])) k
  rw [rval, List.length_cons]
  omega
theorem rval_append : ∀ (a b : List S55) (k : Int), rval (a ++ b) k = rval a k + rval b k
 | [], b, k => by simp [rval]
 | x :: t, b, k => by rw [List.cons_append, rval, rval, rval_append]; omega

/-! ### the program's check -/
theorem bad_ok (x : S55) : wear_validRuns.bad x = !decide (ROk x) := by
 unfold wear_validRuns.bad
 by_cases h : ROk x
 ·
  obtain ⟨h0, h1, h2, h3, h4⟩ := id h
  rw [decide_eq_true h, decide_eq_true h0, decide_eq_true h1, decide_eq_true h3, decide_eq_true h4, decide_eq_false (show ¬ x.f1 ≥ 60 by omega)]
  rfl
 ·
  rw [decide_eq_false h]
  by_cases h0 : 0 ≤ x.f0
  ·
   by_cases h1 : x.f0 ≤ x.f1
   ·
    by_cases h2 : x.f1 ≥ 60
    ·
     rw [decide_eq_true h2]; simp
    ·
     by_cases h3 : 1 ≤ x.f2
     ·
      by_cases h4 : x.f2 ≤ 1000000
      ·
       exact absurd ⟨h0, h1, by omega, h3, h4⟩ h
      ·
       rw [decide_eq_false h4]; simp
     ·
      rw [decide_eq_false h3]; simp
   ·
    rw [decide_eq_false h1]; simp
  ·
   rw [decide_eq_false h0]; simp
theorem valid_runs (l : List S55) : wear_validRuns.f l = some (decide (Runs l)) := by
 unfold wear_validRuns.f
 congr 1
 have e : (!(l.any wear_validRuns.bad)) = decide (∀ x ∈ l, ROk x) := by
  by_cases h : ∀ x ∈ l, ROk x
  ·
   rw [decide_eq_true h, Bool.not_eq_true', List.any_eq_false]
   intro x hx
   rw [bad_ok, decide_eq_true (h x hx)]
   simp
  ·
   rw [decide_eq_false h, Bool.not_eq_false', List.any_eq_true]
   simp only [Classical.not_forall] at h
   obtain ⟨x, hx, hb⟩ := h
   exact ⟨x, hx, by rw [bad_ok, decide_eq_false hb]; rfl⟩
 rw [e]
 by_cases h : l.length ≤ 40
 ·
  rw [decide_eq_true (show (l.length : Int) ≤ 40 by omega), Bool.true_and, decide_eq_decide]
  exact ⟨fun h2 => ⟨h, h2⟩, fun h2 => h2.2⟩
 ·
  rw [decide_eq_false (show ¬ (l.length : Int) ≤ 40 by omega), Bool.false_and, decide_eq_false (fun h2 : Runs l => h h2.1)]

/-! ### the program's sums -/
def rdif (x : S55) (j : Nat) : Int := (if (j : Int) = x.f0 then x.f2 else 0) - (if (j : Int) = x.f1 + 1 then x.f2 else 0)
def rdifs : List S55 → Nat → Int
 | [], _ => 0
 | x :: t, j => rdif x j + rdifs t j
theorem rdif_bd {x : S55} (h : ROk x) (j : Nat) : -1000000 ≤ rdif x j ∧ rdif x j ≤ 1000000 := by
 obtain ⟨h0, h1, h2, h3, h4⟩ := h
 unfold rdif
 split <;> split <;> omega
theorem step_tabl {x : S55} (h : ROk x) (g : Nat → Int) (hg : ∀ j, -1000000000 ≤ g j ∧ g j ≤ 1000000000) :
  wear_totals.step x (tabl 61 g) = some (tabl 61 fun j => g j + rdif x j) := by
 obtain ⟨h0, h1, h2, h3, h4⟩ := h
 obtain ⟨p, hp⟩ : ∃ p : Nat, (p : Int) = x.f0 := ⟨x.f0.toNat, by omega⟩
 obtain ⟨q, hq⟩ : ∃ q : Nat, (q : Int) = x.f1 := ⟨x.f1.toNat, by omega⟩
 have hw : wrap64 (x.f1 + 1) = ((q + 1 : Nat) : Int) := by rw [wrap_id] <;> omega
 have hpq : p ≤ q := by omega
 have hp61 : p < 61 := by omega
 have hq61 : q + 1 < 61 := by omega
 unfold wear_totals.step
 rw [hw, ← hp, if_pos ⟨by omega, by omega, by omega, by omega⟩, Int.toNat_natCast, Int.toNat_natCast, rd_tabl _ _ _ hp61]
 have b1 := hg p
 have b2 := hg (q + 1)
 have e1 : wrap64 (g p + x.f2) = g p + x.f2 := by rw [wrap_id] <;> omega
 rw [e1, tabl_set, rd_tabl _ _ _ hq61, if_neg (show ¬ (q + 1 = p) by omega)]
 have e2 : wrap64 (g (q + 1) - x.f2) = g (q + 1) - x.f2 := by rw [wrap_id] <;> omega
 rw [e2, tabl_set]
 congr 1
 refine tabl_congr fun j hj => ?_
 unfold rdif
 rw [← hp, ← hq]
 by_cases c1 : j = q + 1
 ·
  subst c1
  rw [if_pos rfl, if_neg (by omega), if_pos (by omega)]
  omega
 ·
  rw [if_neg c1]
  by_cases c2 : j = p
  ·
   subst c2
   rw [if_pos rfl, if_pos rfl, if_neg (by omega)]
   omega
  ·
   rw [if_neg c2, if_neg (by omega), if_neg (by omega)]
   omega
theorem steps_tabl : ∀ (l : List S55) (h : ∀ x ∈ l, ROk x) (g : Nat → Int) (B : Int) (hg : ∀ j, -B ≤ g j ∧ g j ≤ B) (hB : B + 1000000 * (l.length : Int) ≤ 100000000),
  wear_totals.steps l (tabl 61 g) = some (tabl 61 fun j => g j + rdifs l j)
 | [], _, g, B, hg, hB => by
  rw [wear_totals.steps]
  congr 1
  exact tabl_congr fun j _ => by rw [rdifs]; omega
 | x :: t, h, g, B, hg, hB => by
  rw [List.length_cons] at hB
  have hx := h x (by simp)
  rw [wear_totals.steps, step_tabl hx g (fun j => by have := hg j; omega), Option.bind_some,
   steps_tabl t (fun y hy => h y (by simp [hy])) _ (B + 1000000) (fun j => by have := hg j; have := rdif_bd hx j; omega) (by omega)]
  congr 1
  exact tabl_congr fun j _ => by rw [rdifs]; omega
theorem sums_tabl (g P : Nat → Int) (h0 : P 0 = 0) (hs : ∀ i, i < 60 → P (i + 1) = P i + g i) (hb : ∀ i, i ≤ 60 → 0 ≤ P i ∧ P i ≤ 1000000000) : ∀ i, i ≤ 60 →
  wear_totals.sums (tabl i g) 0 = tabl i (fun k => P (k + 1)) ∧ wear_totals.acc (tabl i g) 0 = P i
 | 0, _ => ⟨rfl, h0.symm⟩
 | i + 1, hi => by
  obtain ⟨a, b⟩ := sums_tabl g P h0 hs hb i (by omega)
  have e := hs i (by omega)
  have c := hb (i + 1) hi
  have w : wrap64 (P i + g i) = P (i + 1) := by rw [← e, wrap_id] <;> omega
  rw [tabl_succ, wear_totals.sums_snoc, wear_totals.acc_snoc, a, b, w, tabl_succ]
  exact ⟨rfl, rfl⟩
theorem rone_step {x : S55} (h : ROk x) (i : Nat) : rone x (i : Int) = rone x ((i : Int) - 1) + rdif x i := by
 obtain ⟨h0, h1, h2, h3, h4⟩ := h
 unfold rone rdif
 by_cases c1 : x.f0 ≤ (i : Int) ∧ (i : Int) ≤ x.f1
 ·
  rw [if_pos c1, if_neg (show ¬ (i : Int) = x.f1 + 1 by omega)]
  by_cases c2 : (i : Int) = x.f0
  ·
   rw [if_pos c2, if_neg (by omega)]; omega
  ·
   rw [if_neg c2, if_pos (by omega)]; omega
 ·
  rw [if_neg c1, if_neg (show ¬ (i : Int) = x.f0 by omega)]
  by_cases c2 : (i : Int) = x.f1 + 1
  ·
   rw [if_pos c2, if_pos (by omega)]; omega
  ·
   rw [if_neg c2, if_neg (by omega)]; omega
theorem rval_step : ∀ {l : List S55} (h : ∀ x ∈ l, ROk x) (i : Nat), rval l (i : Int) = rval l ((i : Int) - 1) + rdifs l i
 | [], _, _ => rfl
 | x :: t, h, i => by
  rw [rval, rval, rdifs, rone_step (h x (by simp)) i, rval_step (fun y hy => h y (by simp [hy])) i]
  omega
theorem rval_neg : ∀ {l : List S55} (h : ∀ x ∈ l, ROk x), rval l (-1) = 0
 | [], _ => rfl
 | x :: t, h => by
  obtain ⟨h0, h1, h2, h3, h4⟩ := h x (by simp)
  rw [rval, rval_neg (fun y hy => h y (by simp [hy])), rone, if_neg (by omega)]
  rfl
theorem totals_f {l : List S55} (h : Runs l) : wear_totals.f l = some (rtot l) := by
 obtain ⟨h1, h2⟩ := h
 unfold wear_totals.f
 have e : List.replicate 61 (0 : Int) = tabl 61 fun _ => 0 := by decide
 rw [e, steps_tabl l h2 (fun _ => 0) 0 (fun _ => ⟨by omega, by omega⟩) (by omega), Option.map_some, tabl_take _ _ _ (by decide)]
 congr 1
 refine (sums_tabl _ (fun i => rval l ((i : Int) - 1)) ?_ (fun i _ => ?_) (fun i _ => ?_) 60 (Nat.le_refl _)).1.trans (tabl_congr fun j _ => ?_)
 ·
  exact rval_neg h2
 ·
  have := rval_step h2 i
  have e : (((i + 1 : Nat) : Int) - 1) = (i : Int) := by omega
  show rval l (((i + 1 : Nat) : Int) - 1) = _
  rw [e, this]
  omega
 ·
  have := rval_bd h2 ((i : Int) - 1)
  omega
 ·
  show rval l (((j + 1 : Nat) : Int) - 1) = _
  rw [show (((j + 1 : Nat) : Int) - 1) = (j : Int) by omega]
theorem rtot_len (l : List S55) : (rtot l).length = 60 := tabl_len _ _
theorem Totals_f (l : List S55) : wear_Totals.f l = some (if Runs l then (rtot l, 0) else ([], 71)) := by
 unfold wear_Totals.f
 rw [valid_runs, Option.bind_some]
 by_cases h : Runs l
 ·
  rw [if_pos (decide_eq_true h), totals_f h, if_pos h]; rfl
 ·
  rw [if_neg (by simpa using h), if_neg h]
def worstOf (l : List S55) : Int × Int × Int := if Runs l then ((wear_Worst.go (rtot l) 0 0 0).1, (wear_Worst.go (rtot l) 0 0 0).2, 0) else (0, 0, 71)
theorem Worst_f (l : List S55) : wear_Worst.f l = some (worstOf l) := by
 unfold wear_Worst.f worstOf
 rw [valid_runs, Option.bind_some]
 by_cases h : Runs l
 ·
  rw [if_pos (decide_eq_true h), totals_f h, if_pos h]; rfl
 ·
  rw [if_neg (by simpa using h), if_neg h]
def overOf (l : List S55) (m : Int) : List Int × Int := if Runs l then (if m < 0 then ([], 2) else (wear_Over.go (rtot l) 0 m, 0)) else ([], 71)
theorem Over_f (l : List S55) (m : Int) : wear_Over.f l m = some (overOf l m) := by
 unfold wear_Over.f overOf
 rw [valid_runs, Option.bind_some]
 by_cases h : Runs l
 ·
  rw [if_pos (decide_eq_true h), if_pos h]
  by_cases hm : m < 0
  ·
   rw [if_pos hm, if_pos hm]
  ·
   rw [if_neg hm, if_neg hm, totals_f h]; rfl
 ·
  rw [if_neg (by simpa using h), if_neg h]
theorem over_len : ∀ (r : List Int) (i m : Int), (wear_Over.go r i m).length ≤ r.length
 | [], _, _ => Nat.le_refl _
 | n :: t, i, m => by
  have := over_len t (i + 1) m
  rw [wear_Over.go]
  split
  ·
   rw [List.length_cons, List.length_cons]; omega
  ·
   rw [List.length_cons]; omega

/-! ### the document's -/
theorem rd_run (l : List S55) (i : Nat) (h : i < l.length) : rd_T55 l (i : Int) = l[i] := by simp [rd_T55, List.getD_eq_getElem?_getD, h]
theorem rruns_l0 (l : List S55) (hl : l.length ≤ 9223372036854775807) : ∀ (d i : Nat), i + d = l.length → (∀ j (h : j < l.length), j < i → ROk l[j]) →
  Ev (fun k => dropperref07_Runs.l0 k l (i : Int)) (decide (Runs l)) := by
 intro d
 induction d with
 | zero =>
  intro i hi hb
  refine Ev.step (fun k => by rw [dropperref07_Runs.l0]) ?_
  refine ev_neg (by omega) (ev_const ?_)
  congr 1
  rw [decide_eq_decide]
  refine ⟨fun h => ⟨by omega, fun x hx => ?_⟩, fun h => by have := h.1; omega⟩
  obtain ⟨j, hj, rfl⟩ := List.getElem_of_mem hx
  exact hb j hj (by omega)
 | succ d ih =>
  intro i hi hb
  have hil : i < l.length := by omega
  refine Ev.step (fun k => by rw [dropperref07_Runs.l0]) ?_
  refine ev_pos (by omega) (ev_pos (by omega) ?_)
  rw [rd_run l i hil]
  have no : ¬ ROk l[i] → decide (Runs l) = false := fun h => decide_eq_false fun hr => h (hr.2 _ (List.getElem_mem hil))
  by_cases c1 : l[i].f0 < 0
  ·
   refine ev_pos c1 (ev_const ?_)
   rw [no (fun h => by have := h.1; omega)]
  refine ev_neg c1 ?_
  by_cases c2 : l[i].f0 > l[i].f1
  ·
   refine ev_pos c2 (ev_const ?_)
   rw [no (fun h => by have := h.2.1; omega)]
  refine ev_neg c2 ?_
  by_cases c3 : l[i].f1 ≥ 60
  ·
   refine ev_pos c3 (ev_const ?_)
   rw [no (fun h => by have := h.2.2.1; omega)]
  refine ev_neg c3 ?_
  by_cases c4 : l[i].f2 < 1
  ·
   refine ev_pos c4 (ev_const ?_)
   rw [no (fun h => by have := h.2.2.2.1; omega)]
  refine ev_neg c4 ?_
  by_cases c5 : l[i].f2 > 1000000
  ·
   refine ev_pos c5 (ev_const ?_)
   rw [no (fun h => by have := h.2.2.2.2; omega)]
  refine ev_neg c5 ?_
  have e : wrap64 ((i : Int) + 1) = ((i + 1 : Nat) : Int) := by rw [wrap_id] <;> omega
  rw [e]
  refine ih (i + 1) (by omega) fun j hj h => ?_
  by_cases hji : j = i
  ·
   subst hji
   exact ⟨by omega, by omega, by omega, by omega, by omega⟩
  ·
   exact hb j hj (by omega)
theorem rruns (l : List S55) (hl : l.length ≤ 9223372036854775807) : Ev (fun k => dropperref07_Runs.f k l) (decide (Runs l)) := rruns_l0 l hl l.length 0 (by omega) (fun _ _ h => by omega)
theorem rtot_l1 {r : List Int × Int} (l : List S55) (i : Nat) (hi : i < l.length) (hl : l.length ≤ 40) (h : ROk l[i]) (g : Nat → Int) (hg : ∀ j, 0 ≤ g j ∧ g j ≤ 1000000000)
  (hn : Ev (fun k => dropperref07_Totals.l0 k l (tabl 60 fun j => g j + rone l[i] (j : Int)) ((i + 1 : Nat) : Int)) r) : ∀ (d m : Nat), m + d = l[i].f1.toNat + 1 → l[i].f0.toNat ≤ m →
  Ev (fun k => dropperref07_Totals.l1 k l (tabl 60 fun j => g j + (if l[i].f0 ≤ (j : Int) ∧ j < m then l[i].f2 else 0)) (i : Int) (m : Int)) r := by
 obtain ⟨h0, h1, h2, h3, h4⟩ := h
 intro d
 induction d with
 | zero =>
  intro m hm hm0
  refine Ev.step (fun k => by rw [dropperref07_Totals.l1]) ?_
  refine ev_pos (by omega) (ev_pos (by omega) ?_)
  rw [rd_run l i hi]
  refine ev_neg (by omega) ?_
  rw [wrap_succ i (by omega)]
  refine Ev.congr (fun k => ?_) hn
  congr 1
  refine tabl_congr fun j hj => ?_
  unfold rone
  by_cases c : l[i].f0 ≤ (j : Int) ∧ (j : Int) ≤ l[i].f1
  ·
   rw [if_pos c, if_pos ⟨c.1, by omega⟩]
  ·
   rw [if_neg c, if_neg (fun c2 => c ⟨c2.1, by omega⟩)]
 | succ d ih =>
  intro m hm hm0
  refine Ev.step (fun k => by rw [dropperref07_Totals.l1]) ?_
  refine ev_pos (by omega) (ev_pos (by omega) ?_)
  rw [rd_run l i hi]
  refine ev_pos (by omega) (ev_pos (by omega) (ev_pos (by rw [tabl_len]; omega) ?_))
  rw [wrap_succ m (by omega), Int.toNat_natCast, rd_tabl _ _ _ (by omega), tabl_set]
  have b := hg m
  rw [if_neg (show ¬ (l[i].f0 ≤ (m : Int) ∧ m < m) by omega)]
  have w : wrap64 (g m + 0 + l[i].f2) = g m + l[i].f2 := by rw [wrap_id] <;> omega
  rw [w]
  refine Ev.congr (fun k => ?_) (ih (m + 1) (by omega) (by omega))
  congr 1
  refine tabl_congr fun j hj => ?_
  by_cases c : j = m
  ·
   subst c
   rw [if_pos rfl, if_pos ⟨by omega, by omega⟩]
  ·
   rw [if_neg c]
   by_cases c2 : l[i].f0 ≤ (j : Int) ∧ j < m
   ·
    rw [if_pos c2, if_pos ⟨c2.1, by omega⟩]
   ·
    rw [if_neg c2, if_neg (fun c3 => c2 ⟨c3.1, by omega⟩)]
theorem rtot_l0 (l : List S55) (h : Runs l) : ∀ (d i : Nat), i + d = l.length →
  Ev (fun k => dropperref07_Totals.l0 k l (tabl 60 fun j => rval (l.take i) (j : Int)) (i : Int)) (rtot l, 0) := by
 obtain ⟨hl, hb⟩ := h
 intro d
 induction d with
 | zero =>
  intro i hi
  refine Ev.step (fun k => by rw [dropperref07_Totals.l0]) ?_
  refine ev_neg (by omega) (ev_const ?_)
  rw [List.take_of_length_le (by omega)]
  rfl
 | succ d ih =>
  intro i hi
  have hil : i < l.length := by omega
  have hok : ROk l[i] := hb _ (List.getElem_mem hil)
  refine Ev.step (fun k => by rw [dropperref07_Totals.l0]) ?_
  refine ev_pos (by omega) (ev_pos (by omega) ?_)
  rw [rd_run l i hil, show l[i].f0 = ((l[i].f0.toNat : Nat) : Int) by have := hok.1; omega]
  have hg : ∀ j : Nat, 0 ≤ rval (l.take i) (j : Int) ∧ rval (l.take i) (j : Int) ≤ 1000000000 := fun j => by
   have := rval_bd (l := l.take i) (fun x hx => hb x (List.mem_of_mem_take hx)) (j : Int)
   have e : (l.take i).length ≤ 40 := by rw [List.length_take]; omega
   omega
  refine Ev.congr (fun k => ?_) (rtot_l1 l i hil hl hok (fun j => rval (l.take i) (j : Int)) hg ?_ (l[i].f1.toNat + 1 - l[i].f0.toNat) l[i].f0.toNat (by have := hok.2.1; omega) (Nat.le_refl _))
  ·
   congr 1
   refine tabl_congr fun j hj => ?_
   rw [if_neg (by omega)]
   omega
  ·
   refine Ev.congr (fun k => ?_) (ih (i + 1) (by omega))
   congr 1
   refine tabl_congr fun j hj => ?_
   rw [List.take_succ_eq_append_getElem hil, rval_append, rval, rval]
   omega
theorem RTotals (l : List S55) (hl : l.length ≤ 9223372036854775807) : Ev (fun k => dropperref07_Totals.f k l) (if Runs l then (rtot l, 0) else ([], 71)) := by
 unfold dropperref07_Totals.f
 refine Ev.bind (rruns l hl) ?_
 by_cases h : Runs l
 ·
  refine ev_pos (decide_eq_true h) (ev_pos (by omega) ?_)
  rw [if_pos h]
  exact rtot_l0 l h l.length 0 (by omega)
 ·
  refine ev_neg (by simpa using h) ?_
  rw [if_neg h]
  exact Ev.now _
theorem rworst_l0 (t : List Int) (ht : t.length ≤ 60) (e : Int) : ∀ (d i : Nat) (s p : Int), i + d = t.length →
  Ev (fun k => dropperref07_Worst.l0 k t e s p (i : Int)) ((wear_Worst.go (t.drop i) (i : Int) s p).1, (wear_Worst.go (t.drop i) (i : Int) s p).2, e) := by
 intro d
 induction d with
 | zero =>
  intro i s p hi
  refine Ev.step (fun k => by rw [dropperref07_Worst.l0]) ?_
  rw [List.drop_eq_nil_of_le (by omega)]
  exact ev_neg (by omega) (Ev.now _)
 | succ d ih =>
  intro i s p hi
  refine Ev.step (fun k => by rw [dropperref07_Worst.l0]) ?_
  refine ev_pos (by omega) (ev_pos (by omega) ?_)
  rw [rd_eq t i (by omega), List.drop_eq_getElem_cons (show i < t.length by omega), wear_Worst.go, wrap_succ i (by omega)]
  by_cases c : t[i]'(by omega) > p
  ·
   rw [if_pos c]
   exact ev_pos c (ih (i + 1) _ _ (by omega))
  ·
   rw [if_neg c]
   exact ev_neg c (ih (i + 1) _ _ (by omega))
theorem RWorst (l : List S55) (hl : l.length ≤ 9223372036854775807) : Ev (fun k => dropperref07_Worst.f k l) (worstOf l) := by
 unfold dropperref07_Worst.f worstOf
 refine Ev.bind (RTotals l hl) ?_
 by_cases h : Runs l
 ·
  rw [if_pos h, if_pos h]
  exact rworst_l0 (rtot l) (by rw [rtot_len]; omega) 0 60 0 0 0 (by rw [rtot_len])
 ·
  rw [if_neg h, if_neg h]
  exact rworst_l0 [] (by simp) 71 0 0 0 0 rfl
theorem rover_l0 (t : List Int) (ht : t.length ≤ 60) (m e : Int) : ∀ (d i : Nat) (o : List Int), i + d = t.length → o.length ≤ i →
  Ev (fun k => dropperref07_Over.l0 k m t o (i : Int)) (o ++ wear_Over.go (t.drop i) (i : Int) m, 0) := by
 intro d
 induction d with
 | zero =>
  intro i o hi ho
  refine Ev.step (fun k => by rw [dropperref07_Over.l0]) ?_
  rw [List.drop_eq_nil_of_le (by omega), wear_Over.go, List.append_nil]
  exact ev_neg (by omega) (Ev.now _)
 | succ d ih =>
  intro i o hi ho
  refine Ev.step (fun k => by rw [dropperref07_Over.l0]) ?_
  refine ev_pos (by omega) (ev_pos (by omega) ?_)
  rw [rd_eq t i (by omega), List.drop_eq_getElem_cons (show i < t.length by omega), wear_Over.go, wrap_succ i (by omega)]
  by_cases c : t[i]'(by omega) > m
  ·
   rw [if_pos c]
   refine ev_pos c (ev_pos (by omega) ?_)
   have := ih (i + 1) (o ++ [(i : Int)]) (by omega) (by rw [List.length_append]; simp only [List.length_singleton]; omega)
   rwa [List.append_assoc] at this
  ·
   rw [if_neg c]
   exact ev_neg c (ih (i + 1) _ (by omega) (by omega))
theorem ROver (l : List S55) (m : Int) (hl : l.length ≤ 9223372036854775807) : Ev (fun k => dropperref07_Over.f k l m) (overOf l m) := by
 unfold dropperref07_Over.f overOf
 refine Ev.bind (RTotals l hl) ?_
 by_cases h : Runs l
 ·
  rw [if_pos h, if_pos h]
  refine ev_pos rfl (Ev.step (fun k => by rw [dropperref07_Over.j0]) ?_)
  by_cases hm : m < 0
  ·
   rw [if_pos hm]
   refine ev_pos (decide_eq_true hm) (Ev.step (fun k => by rw [dropperref07_Over.j1]) ?_)
   exact ev_neg (by decide) (Ev.now _)
  ·
   rw [if_neg hm]
   refine ev_neg (by simpa using hm) (Ev.step (fun k => by rw [dropperref07_Over.j1]) ?_)
   exact ev_pos rfl (rover_l0 (rtot l) (by rw [rtot_len]; omega) m 0 60 0 [] (by rw [rtot_len]) (Nat.zero_le _))
 ·
  rw [if_neg h, if_neg h]
  refine ev_neg (show ¬ (71 : Int) = 0 by decide) (Ev.step (fun k => by rw [dropperref07_Over.j0]) ?_)
  refine ev_neg (by decide) (Ev.step (fun k => by rw [dropperref07_Over.j1]) ?_)
  exact ev_neg (by decide) (Ev.now _)
end Go.Proofs.Ytpdcpekjafcohaa.Plain

/- Runs (at most 100): program and document return the same totals, the same worst span, the same spans over a limit. No condition but the statement's own. -/
namespace Go.Proofs.Ytpdcpekjafcohaa.Pure
set_option linter.unusedVariables false
set_option linter.unusedSimpArgs false
open Go.RowKit Go.Proofs.Ytpdcpekjafcohaa.XWear Go.Proofs.YtpdcpekjafcohaaW.PrintWords Go.Proofs.YtpdcpekjafcohaaW.PrintLast Go.Proofs.YtpdcpekjafcohaaW.PrintMore
open Go.Proofs.Ytpdcpekjafcohaa.Plain

theorem WearTotals : dropperlaw07_WearTotals.Pure := by
 intro l m hl _
 replace hl := hl.1
 refine Ev.rounds (r := true) (g := fun k => dropperlaw07_WearTotals.f k l m) ?_
 unfold dropperlaw07_WearTotals.f
 by_cases h : (l.length : Int) > 100
 ·
  exact ev_pos h (Ev.bind first_ev (Ev.now _))
 refine ev_neg h ?_
 rw [Totals_f, Worst_f]
 refine ev_some (Ev.bind (RTotals l hl) (ev_some (Ev.bind (RWorst l hl) ?_)))
 have h1 : Ev (fun k => dropperlaw07_SameInts.f k (if Runs l then (rtot l, (0 : Int)) else ([], 71)).1 (if Runs l then (rtot l, (0 : Int)) else ([], 71)).1) true := by
  have := same (if Runs l then (rtot l, (0 : Int)) else ([], 71)).1 (if Runs l then (rtot l, (0 : Int)) else ([], 71)).1 (by
   split
   ·
    rw [rtot_len]; omega
   ·
    simp)
  rwa [decide_eq_true rfl] at this
 have h2 : Ev (fun k => dropperlaw07_SameInts.f k (overOf l m).1 (overOf l m).1) true := by
  have := same (overOf l m).1 (overOf l m).1 (by
   unfold overOf
   split
   ·
    split
    ·
     simp
    ·
     have := over_len (rtot l) 0 m
     rw [rtot_len] at this
     exact Nat.le_trans this (by omega)
   ·
    simp)
  rwa [decide_eq_true rfl] at this
 refine Ev.bind h1 (ev_pos rfl (ev_pos rfl (ev_pos rfl (ev_pos rfl ?_))))
 refine Ev.step (fun k => by rw [dropperlaw07_WearTotals.j0]) (ev_neg (by simp) ?_)
 rw [Over_f]
 exact ev_some (Ev.bind (ROver l m hl) (Ev.bind h2 (ev_pos rfl (ev_pos rfl (Ev.bind first_ev (Ev.now _))))))

end Go.Proofs.Ytpdcpekjafcohaa.Pure

namespace Go.Proofs.Ytpdcpekjafcohaa.Open
open Go.RowKit Go.Proofs.YtpdcpekjafcohaaW.PrintWords Go.Proofs.YtpdcpekjafcohaaW.PrintLast Go.Proofs.YtpdcpekjafcohaaW.PrintMore
set_option linter.unusedVariables false
set_option linter.unusedSimpArgs false
/-! What an argument of a type reads as, in the print's kinds. -/
def Opens {α : Type} (P : Program) (t : TypeId) (kd : Kd α) (G : α → Prop) : Prop :=
 ∀ (H : Type) (enc : TypeId × Value → H) (W : World) (fuel : Nat) (cs : List Value) (x : DataW H × List MemPlace), DataW.trod enc P W 0 (fun _ => true) true fuel t cs = some x → ∃ a, kd.K W a cs ∧ G a
section
variable {P : Program} {t e : TypeId} {α β : Type} {kd : Kd α} {G : α → Prop}
theorem opens_int {k : IntKind} (hu : P.underlying t = some (.int k)) : Opens P t (Kd.int k) (fun n => (Lit.int k n).wf = true) := by
 intro H enc W fuel cs x h
 obtain ⟨n, rfl, _, hw⟩ := DataW.trod_int hu h
 exact ⟨n, rfl, hw⟩
theorem exists_list {Q : Nat → α → Prop} : ∀ n, (∀ i, i < n → ∃ x, Q i x) → ∃ xs : List α, xs.length = n ∧ ∀ i x, xs[i]? = some x → Q i x := by
 intro n
 induction n with
 | zero => intro _; exact ⟨[], rfl, fun i x h => by simp at h⟩
 | succ n ih =>
  intro h
  obtain ⟨xs, hl, hq⟩ := ih (fun i hi => h i (by omega))
  obtain ⟨x, hx⟩ := h n (by omega)
  refine ⟨xs ++ [x], by simp [hl], fun i y hy => ?_⟩
  by_cases hi : i < n
  ·
   rw [List.getElem?_append_left (by omega)] at hy
   exact hq i y hy
  ·
   rw [List.getElem?_append_right (by omega)] at hy
   have : i - xs.length = 0 := by
    have := (List.getElem?_eq_some_iff.1 hy).1
    simp at this; omega
   rw [this] at hy
   have hin : i = n := by omega
   subst hin
   simp at hy
   subst hy
   exact hx
theorem add_add (a : Addr) (m n : Nat) : (a.add m).add n = a.add (m + n) := by
 unfold Addr.add
 by_cases h1 : m = 0
 ·
  subst h1; simp
 ·
  by_cases h2 : n = 0
  ·
   subst h2; simp [h1]
  ·
   have : ¬ m + n = 0 := by omega
   simp [h1, h2, this, Nat.add_assoc]
theorem opens_slice (hu : P.underlying t = some (.slice e)) (he : Opens P e kd G) (hc : P.cellsOf e = kd.sz) : Opens P t (Kd.slice e kd) (fun l => l.length ≤ 9223372036854775807 ∧ ∀ x ∈ l, G x) := by
 intro H enc W fuel cs x h
 rcases DataW.trod_slice hu h with ⟨rfl, _⟩ | ⟨a, len, cap, elems, rest, n, _, rfl, _, hb, hl, hm, hlen, hel, _, _⟩
 ·
  exact ⟨[], ⟨none, 0, rfl, Nat.le_refl _, rfl, by simp, fun h => absurd h (by simp)⟩, by simp, fun x hx => by simp at hx⟩
 ·
  have hx : ∀ i, i < len → ∃ y : α, (∃ c, c.length = kd.sz ∧ kd.K W y c ∧ ∀ j u, c[j]? = some u → W.cell? (a.add (i * kd.sz + j)) = some u) ∧ G y := by
   intro i hi
   have h1 := hel i hi
   rw [List.getElem?_eq_getElem (by omega)] at h1
   obtain ⟨c, hc1, hc2⟩ := Option.bind_eq_some_iff.1 h1
   obtain ⟨y, hk, hg⟩ := he H enc W n c _ hc2
   obtain ⟨_, hcl, hcell⟩ := World.cells?_some hc1
   refine ⟨y, ⟨c, kd.K_len hk, hk, fun j u hj => ?_⟩, hg⟩
   rw [hc] at hcell
   have := hcell j (by have := (List.getElem?_eq_some_iff.1 hj).1; have := kd.K_len hk; omega)
   rw [← add_add, this, hj]
  obtain ⟨xs, hxl, hxq⟩ := exists_list len hx
  have hmax : len ≤ 9223372036854775807 := by unfold maxLen at hm; omega
  refine ⟨xs, ⟨some a, cap, by rw [hxl], by omega, rfl, by omega, fun _ => ⟨a, rfl, fun j p hj => (hxq j p hj).1⟩⟩, by omega, fun y hy => ?_⟩
  obtain ⟨i, hi, rfl⟩ := List.mem_iff_getElem.1 hy
  exact (hxq i xs[i] (List.getElem?_eq_getElem hi)).2
def OpensF (P : Program) (fs : List Field) (off : Nat) (kd : Kd α) (G : α → Prop) : Prop :=
 ∀ (H : Type) (enc : TypeId × Value → H) (W : World) (fuel : Nat) (cs : List Value) (xs : List (DataW H × List MemPlace)), xs.length = fs.length → cs.length = off + kd.sz →
  (∀ (i : Nat) (f : Field), fs[i]? = some f → DataW.trod enc P W 0 (fun _ => true) true fuel f.type ((cs.drop f.offset).take (P.cellsOf f.type)) = xs[i]?) → ∃ a, kd.K W a (cs.drop off) ∧ G a
theorem opensF_one {f : Field} {off : Nat} (ho : f.offset = off) (hc : P.cellsOf f.type = kd.sz) (h : Opens P f.type kd G) : OpensF P [f] off kd G := by
 intro H enc W fuel cs xs hl hcs hx
 have h0 := hx 0 f rfl
 rw [List.getElem?_eq_getElem (by rw [hl]; simp), ho, hc, List.take_of_length_le (by rw [List.length_drop]; omega)] at h0
 exact h H enc W fuel _ _ h0
theorem opensF_cons {f : Field} {fs : List Field} {off : Nat} {ka : Kd α} {kb : Kd β} {Ga : α → Prop} {Gb : β → Prop} (ho : f.offset = off) (hc : P.cellsOf f.type = ka.sz) (h : Opens P f.type ka Ga) (hr : OpensF P fs (off + ka.sz) kb Gb) :
  OpensF P (f :: fs) off (Kd.pair ka kb) (fun p => Ga p.1 ∧ Gb p.2) := by
 intro H enc W fuel cs xs hl hcs hx
 have hcs' : cs.length = off + (ka.sz + kb.sz) := hcs
 match xs, hl with
 | x0 :: xs', hl =>
  have h0 := hx 0 f rfl
  rw [ho, hc] at h0
  obtain ⟨a, ha, hga⟩ := h H enc W fuel _ x0 h0
  obtain ⟨b, hb, hgb⟩ := hr H enc W fuel cs xs' (by simpa using hl) (by omega) (fun i f' hf' => hx (i + 1) f' (by simpa using hf'))
  refine ⟨(a, b), ⟨_, _, ?_, ha, hb⟩, hga, hgb⟩
  rw [← List.drop_drop, List.take_append_drop]
theorem opens_struct {fs : Array Field} (hu : P.underlying t = some (.struct fs)) (hc : P.cellsOf t = kd.sz) (h : OpensF P fs.toList 0 kd G) : Opens P t kd G := by
 intro H enc W fuel cs x hx
 obtain ⟨xs, n, _, _, hl, hxl, hf⟩ := DataW.trod_struct hu hx
 obtain ⟨a, ha, hg⟩ := h H enc W n cs xs (by rw [hxl]; simp) (by omega) (fun i f hf' => hf i f (by simpa using hf'))
 exact ⟨a, ha, hg⟩
theorem opens_iso {f : β → α} (g : α → β) (hfg : ∀ y, f (g y) = y) (h : Opens P t kd G) : Opens P t (Kd.iso kd f) (fun b => G (f b)) := by
 intro H enc W fuel cs x hx
 obtain ⟨a, ha, hg⟩ := h H enc W fuel cs x hx
 exact ⟨g a, by show kd.K W (f (g a)) cs; rw [hfg]; exact ha, by show G (f (g a)); rw [hfg]; exact hg⟩
end
end Go.Proofs.Ytpdcpekjafcohaa.Open

-- Written by wip/xprint.py of this repo, over the kit's print.py: out of the translation; the oracles in it are by hand. Not trusted: Lean checks it.
namespace Go.Proofs.Ytpdcpekjafcohaa.wearTotals
open Go.ChangeShapes Go.WideShapes Go.ChangeAt Go.RowKit Go.Proofs.Ytpdcpekjafcohaa.Open Go.Proofs.Ytpdcpekjafcohaa.XWear Go.Proofs.YtpdcpekjafcohaaW.PrintWords Go.Proofs.YtpdcpekjafcohaaW.PrintLast Go.Proofs.YtpdcpekjafcohaaW.PrintMore
open Go.ChangeMaps (open_string shut_string)
set_option linter.unusedVariables false
set_option linter.unusedSimpArgs false
theorem own : ownKnob Try.prog.godebug = none := by kernel_rfl
theorem laidOut : laidOutB Try.prog = true := by kernel_rfl
set_option maxRecDepth 100000 in
theorem lifted (os : Os) (started : os.Started) (H : Type) (enc : TypeId × Value → H) :
  ReturnsInHanded {} Try.checked os 13 .any (Rows.wearTotalsSpec.pre6 enc Try.prog Try.f13 Rows.wearTotalsRow.domain false) (Rows.wearTotalsSpec.post enc Try.prog Try.f13 false true false false) := by
 refine returnsInHanded_of_change_sized (C := Try.checked) own started (by kernel_rfl) Try.func13
  (ChangeSpec.witness6 (enc := enc) (C := Try.checked) false ⟨#[], #[.slice none 0 0, .int .i64 0], []⟩ 8 (by kernel_rfl) (by kernel_rfl) (by kernel_rfl) (by kernel_rfl)) ?_
 intro W base args ds gs before hval0 hW hcnd hsz0 _
 have hval : ∀ (j : Nat) t v, Try.f13.params[j]? = some t → args[j]? = some v → Value.okWide Try.prog W .any base t v := hval0
 have hW' := hW
 obtain ⟨p, q, hA0, hV, rfl, hfz, hnd⟩ := hW
 have hA : DataW.TrodAll enc Try.prog W 0 (fun _ => true) true Try.f13.params.toList args.toList ds p := hA0
 rw [Try.params13] at hA hval
 obtain ⟨v0, vs0, d0, ds0, p0, q0, hargs, rfl, rfl, h0, r0⟩ := trodAll_cons hA
 obtain ⟨v1, vs1, d1, ds1, p1, q1, rfl, rfl, rfl, h1, r1⟩ := trodAll_cons r0
 obtain ⟨rfl, rfl, rfl⟩ := trodAll_nil r1
 obtain rfl : args = #[v0, v1] := by cases args; simp_all
 obtain ⟨rfl, rfl⟩ := trodVars_none hV
 obtain ⟨b0, len0, cap0, rfl⟩ := okWide_slice Try.underlying51 (hval 0 51 v0 rfl rfl)
 have k0 := h0
 have lt0 : ∀ x ∈ p0, x.block < W.heap.size := by obtain ⟨m, hm⟩ := k0; exact DataW.trod_lt m _ _ _ hm
 obtain ⟨fuel0, hf0⟩ := h0
 obtain ⟨l0, ⟨A0, c0, hcs0, hc0, hr0⟩, hg0⟩ := (opens_slice Try.underlying51 (opens_iso (f := fun x : S55 => (x.f0, x.f1, x.f2)) (fun p => ⟨p.1, p.2.1, p.2.2⟩) (fun _ => rfl) (opens_struct Try.underlying55 (by kernel_rfl) (opensF_cons rfl (by kernel_rfl) (opens_int Try.underlying3) (opensF_cons rfl (by kernel_rfl) (opens_int Try.underlying3) (opensF_one rfl (by kernel_rfl) (opens_int Try.underlying3)))))) (by kernel_rfl)) H enc W fuel0 _ _ hf0
 simp [Value.cells] at hcs0
 obtain ⟨rfl, rfl, rfl⟩ := hcs0
 obtain ⟨a1, rfl, rfl, rfl, w1⟩ := open_int Try.underlying3 (hval 1 3 v1 rfl rfl) h1
 clear hA0 hval0 hsz0
 obtain ⟨k, h⟩ := Pure.WearTotals l0 a1 hg0 w1
 refine (dropperlaw07_WearTotals.calls k _ _ l0 a1 true W hr0 hc0 h).mono fun e W' ⟨he, bel0⟩ => ?_
 have bel : Below W.heap.size W W' := bel0
 subst he
 exact ⟨_, rfl, _, _, _, [], _, [], hW', trodAll_mk1 (shut_bool Try.underlying4 _), (trodAll_cons_mk (Below.trod laidOut (by kernel_rfl) (of_decide_eq_true (by kernel_rfl)) k0 bel lt0) (trodAll_cons_mk (shut_int Try.underlying3 w1) trodAll_mk0)), rfl, bel.frame _, fun h => by cases h⟩
theorem over : Rows.wearTotalsRow.holds Try.pinned (OpenSpec.ofChange Rows.wearTotalsSpec) :=
 OpenClaim.holds_of_wide 13 Try.f13 rfl rfl rfl rfl rfl rfl rfl ⟨rfl, rfl, rfl, rfl, rfl⟩ rfl rfl rfl rfl rfl (by kernel_rfl) Try.func13 (by kernel_rfl)
  (of_decide_eq_true (by kernel_rfl)) (by unfold Func.isWrapper; first | (rw [if_pos (by decide +kernel)]; kernel_rfl) | (rw [if_neg (by decide +kernel)]; exact ⟨rfl, rfl⟩))
  (fun os started H enc _ => lifted os started H enc)
theorem proved : Rows.WearTotalsSaid := over
#print axioms proved
end Go.Proofs.Ytpdcpekjafcohaa.wearTotals
namespace Go.Proofs.Ytpdcpekjafcohaa
theorem wearTotals_holds : Rows.WearTotalsSaid := wearTotals.proved
end Go.Proofs.Ytpdcpekjafcohaa
