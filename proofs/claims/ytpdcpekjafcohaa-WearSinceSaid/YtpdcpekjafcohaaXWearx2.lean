-- Written by wip/xprint.py of this repo, over the kit's print.py: out of the translation; the oracles in it are by hand. Not trusted: Lean checks it.
import Derived.Test.YtpdcpekjafcohaaXWearx0
namespace Go.Proofs.Ytpdcpekjafcohaa.XWear
open Go.RowKit Go.Proofs.YtpdcpekjafcohaaW.PrintWords Go.Proofs.YtpdcpekjafcohaaW.PrintLast Go.Proofs.YtpdcpekjafcohaaW.PrintMore
attribute [local go_sem] max2_int min2_int max_two min_two max_three min_three max_four min_four   -- for this text's walks alone
set_option linter.unusedVariables false
set_option linter.unusedSimpArgs false

/-! ### dropperlaw07_Long: function 14 -/
def dropperlaw07_Long.f (l0 : List Int) (l1 : List (S35)) : Option (Bool) := if (l0.length : Int) > 100 then (some true) else (some (decide ((l1.length : Int) > 100)))
set_option maxHeartbeats 8000000 in
set_option maxRecDepth 100000 in
theorem dropperlaw07_Long.calls (A0 : Option Addr) (c0 : Nat) (l0 : List Int) (A1 : Option Addr) (c1 : Nat) (l1 : List (S35)) (r : Bool) (w : World) (hr0 : Kd.C (Kd.int .i64) w A0 l0.length l0) (hc0 : l0.length ≤ c0) (hr1 : Kd.C k35 w A1 l1.length l1) (hc1 : l1.length ≤ c1) (h : dropperlaw07_Long.f l0 l1 = some r) :
    Calls Try.prog 14 #[.slice A0 l0.length c0, .slice A1 l1.length c1] w fun e w' => e = .returned (.bool r) ∧ Drawn0 w w' := by
  have HR0 := Aside0.mk hr0
  have HC0 := Aside0.mk hc0
  clear hr0 hc0
  have HR1 := Aside0.mk hr1
  have HC1 := Aside0.mk hc1
  clear hr1 hc1
  have H : (if (l0.length : Int) > 100 then (some true) else (some (decide ((l1.length : Int) > 100)))) = some r := h
  clear h
  by_cases c3 : (l0.length : Int) > 100
  · rw [if_pos c3] at H
    have c3b0 : decide (100 < (l0.length : Int)) = true := decide_eq_true c3
    have c3b1 : decide (100 < l0.length) = true := decide_eq_true (by omega)
    clear c3
    obtain rfl := Option.some.inj H
    go_enter Try.func14, Try.ntmps14
    go_wp2
    go_ret
    exact ⟨by first | rfl | (simp; done) | (simp [*]; done), by repeat (first | exact Drawn0.refl _ | apply Drawn0.step)⟩
  · rw [if_neg c3] at H
    have c3b0 : decide (100 < (l0.length : Int)) = false := decide_eq_false c3
    have c3b1 : decide (100 < l0.length) = false := decide_eq_false (by omega)
    clear c3
    obtain rfl := Option.some.inj H
    go_enter Try.func14, Try.ntmps14
    go_wp2
    go_ret
    exact ⟨by first | rfl | (simp; done) | (simp [*]; done), by repeat (first | exact Drawn0.refl _ | apply Drawn0.step)⟩

/-! ### wear_Valid: function 27 -/
theorem wear_Valid.within_calls (a b c : Int) (w : World) :
    Calls Try.prog 52 #[.int .i64 a, .int .i64 b, .int .i64 c] w fun e w' => e = .returned (.bool (decide (a ≤ b) && decide (b ≤ c))) ∧ Drawn0 w w' := by
  by_cases h1 : a ≤ b
  · have h1' : decide (a ≤ b) = true := decide_eq_true h1
    go_enter Try.func52, Try.ntmps52
    go_wp2
    go_ret
    exact ⟨by simp [h1], Drawn0.refl _⟩
  · have h1' : decide (a ≤ b) = false := decide_eq_false h1
    go_enter Try.func52, Try.ntmps52
    go_wp2
    go_ret
    exact ⟨by simp [h1], Drawn0.refl _⟩

def wear_Valid.okR (x : Int) : Bool := !(decide (0 ≤ x) && decide (x ≤ 10000))

theorem wear_Valid.clos_calls (x : Int) (w : World) :
    Calls Try.prog 60 #[.int .i64 x] w fun e w' => e = .returned (.bool (wear_Valid.okR x)) ∧ Drawn0 w w' := by
  go_enter Try.func60, Try.ntmps60
  go_wp2_with (go_at_call 52; refine (wear_Valid.within_calls _ _ _ _).mono ?_; rintro e w' ⟨rfl, ⟨n, rfl⟩⟩)
  go_ret
  exact ⟨by simp [wear_Valid.okR], by repeat (first | exact Drawn0.refl _ | apply Drawn0.step)⟩
/-- the index of the first element of which p holds, from i on; -1: none -/
def wear_Valid.idxFrom (p : Int → Bool) (l : List Int) : Int := if l.any p then (l.findIdx p : Int) else -1

theorem wear_Valid.idxFrom_at {p : Int → Bool} {l : List Int} {i : Nat} (hi : i < l.length) (hp : p l[i] = true) (hb : ∀ j (h : j < l.length), j < i → p l[j] = false) : wear_Valid.idxFrom p l = i := by
  have ha : l.any p = true := List.any_eq_true.2 ⟨l[i], List.getElem_mem hi, hp⟩
  have hf : l.findIdx p = i := by
    rw [List.findIdx_eq hi]
    exact ⟨hp, fun j hj => hb j _ hj⟩
  simp [wear_Valid.idxFrom, ha, hf]
theorem wear_Valid.idxFrom_none {p : Int → Bool} {l : List Int} (hb : ∀ j (h : j < l.length), j < l.length → p l[j] = false) : wear_Valid.idxFrom p l = -1 := by
  have ha : l.any p = false := by
    rw [List.any_eq_false]
    intro x hx
    obtain ⟨j, hj, rfl⟩ := List.mem_iff_getElem.1 hx
    simp [hb j hj hj]
  simp [wear_Valid.idxFrom, ha]

theorem wear_Valid.rd_get (l : List Int) (x : Int) (h0 : 0 ≤ x) (h1 : x < (l.length : Int)) : ∃ h : x.toNat < l.length, rd l x = l[x.toNat] := by
  have h : x.toNat < l.length := by omega
  exact ⟨h, by simp [rd, List.getD_eq_getElem?_getD, h]⟩
set_option maxHeartbeats 1000000 in
theorem wear_Valid.index_calls (p : Int → Bool) (A0 : Option Addr) (c0 : Nat) (l0 : List Int) (w : World) (hr0 : Kd.C (Kd.int .i64) w A0 l0.length l0) (hc0 : l0.length ≤ c0) (hl : l0.length ≤ 9223372036854775807)
    (hf : ∀ x W, Calls Try.prog 60 #[.int .i64 x] W fun e w' => e = .returned (.bool (p x)) ∧ Drawn0 W w') :
    Calls Try.prog 83 #[.slice A0 l0.length c0, .func (.func 60) #[] #[]] w fun e w' => e = .returned (.int .i64 (wear_Valid.idxFrom p l0)) ∧ Drawn0 w w' := by
  have HR0 := Aside0.mk hr0
  clear hr0
  have HF := Aside0.mk hf
  clear hf
  go_enter Try.func83, Try.ntmps83
  go_wp2
  go_loopg [5, 8] l0.length (fun kq v5 v8 w' => ∃ x : Int, v8 = .int .i64 x ∧ Aside0 (0 ≤ x ∧ x ≤ l0.length ∧ ∀ j (h : j < l0.length), (j : Int) < x → p l0[j] = false) ∧ Aside0 (kq = l0.length - x.toNat) ∧ Drawn0 w w')
  case atStart => exact ⟨0, rfl, ⟨by omega, by omega, fun _ _ h => by omega⟩, ⟨rfl⟩, Drawn0.refl _⟩
  case round =>
    obtain ⟨x, rfl, HI, HK, ⟨n, rfl⟩⟩ := hrel
    by_cases hlt : x < (l0.length : Int)
    · have h1 : decide (x < (l0.length : Int)) = true := decide_eq_true hlt
      have p1 : 0 ≤ x := HI.out.1
      obtain ⟨ad, e1, hx⟩ := Kd.at_int HR0.out x p1 hlt
      cases e1
      have HX := Aside0.mk (And.intro p1 hlt)
      replace p1 := eq_true p1
      replace hlt := eq_true hlt
      by_cases hp : p (rd l0 x) = true
      · go_wp2_with (go_at_call 60; refine (HF.out _ _).mono ?_; rintro e w' ⟨rfl, ⟨n, rfl⟩⟩)
        go_ret
        obtain ⟨h2, h3⟩ := wear_Valid.rd_get l0 x HX.out.1 HX.out.2
        rw [h3] at hp
        refine ⟨?_, by repeat (first | exact Drawn0.refl _ | apply Drawn0.step)⟩
        rw [wear_Valid.idxFrom_at h2 hp (fun j hj hl => HI.out.2.2 j hj (by omega)), Int.toNat_of_nonneg HX.out.1]; rfl
      · replace hp := Bool.eq_false_iff.mpr hp
        go_wp2_with (go_at_call 60; refine (HF.out _ _).mono ?_; rintro e w' ⟨rfl, ⟨n, rfl⟩⟩)
        go_roundg (l0.length - (x + 1).toNat)
        case measure => have := HX.out; have := HK.out; omega
        case rel =>
          obtain ⟨h2, h3⟩ := wear_Valid.rd_get l0 x HX.out.1 HX.out.2
          have hw : wrap64 (x + 1) = x + 1 := by unfold wrap64; have := HX.out; omega
          refine ⟨x + 1, by first | rfl | rw [hw], ⟨by have := HX.out; omega, by have := HX.out; omega, fun j hj hl => ?_⟩, ⟨rfl⟩, by repeat (first | exact Drawn0.refl _ | apply Drawn0.step)⟩
          by_cases hjx : (j : Int) < x
          · exact HI.out.2.2 j hj hjx
          · have : j = x.toNat := by omega
            subst this
            rw [← h3]; exact hp
    · have h1 : decide (x < (l0.length : Int)) = false := decide_eq_false hlt
      go_wp2
      go_ret
      refine ⟨?_, by repeat (first | exact Drawn0.refl _ | apply Drawn0.step)⟩
      rw [wear_Valid.idxFrom_none (fun j hj hl => HI.out.2.2 j hj (by omega))]; rfl

theorem wear_Valid.idx_ge (p : Int → Bool) (l : List Int) : decide (0 ≤ wear_Valid.idxFrom p l) = l.any p := by
  unfold wear_Valid.idxFrom
  by_cases h : l.any p = true
  · simp [h]
  · have h2 : l.any p = false := by simpa using h
    simp [h2]
theorem wear_Valid.idx_ge' (p : Int → Bool) (l : List Int) : decide (wear_Valid.idxFrom p l ≥ 0) = l.any p := wear_Valid.idx_ge p l

theorem wear_Valid.contains_calls (p : Int → Bool) (A0 : Option Addr) (c0 : Nat) (l0 : List Int) (w : World) (hr0 : Kd.C (Kd.int .i64) w A0 l0.length l0) (hc0 : l0.length ≤ c0) (hl : l0.length ≤ 9223372036854775807)
    (hf : ∀ x W, Calls Try.prog 60 #[.int .i64 x] W fun e w' => e = .returned (.bool (p x)) ∧ Drawn0 W w') :
    Calls Try.prog 59 #[.slice A0 l0.length c0, .func (.func 60) #[] #[]] w fun e w' => e = .returned (.bool (l0.any p)) ∧ Drawn0 w w' := by
  have HR0 := Aside0.mk hr0
  clear hr0
  have HF := Aside0.mk hf
  clear hf
  have hz := Aside0.mk (wear_Valid.idx_ge p l0)
  go_enter Try.func59, Try.ntmps59
  go_wp2_with (go_at_call 83; refine (wear_Valid.index_calls p _ _ l0 _ HR0.out hc0 hl HF.out).mono ?_; rintro e w' ⟨rfl, ⟨n, rfl⟩⟩)
  go_ret
  exact ⟨by rw [← hz.out]; rfl, by repeat (first | exact Drawn0.refl _ | apply Drawn0.step)⟩

def wear_Valid.f (l0 : List Int) : Option Bool := some (decide (1 ≤ l0.length) && decide (l0.length ≤ 40) && l0.all fun x => decide (0 ≤ x) && decide (x ≤ 10000))

theorem wear_Valid.calls (A0 : Option Addr) (c0 : Nat) (l0 : List Int) (r : Bool) (w : World) (hr0 : Kd.C (Kd.int .i64) w A0 l0.length l0) (hc0 : l0.length ≤ c0) (h : wear_Valid.f l0 = some r) :
    Calls Try.prog 27 #[.slice A0 l0.length c0] w fun e w' => e = .returned (.bool r) ∧ Drawn0 w w' := by
  have HR0 := Aside0.mk hr0
  clear hr0
  obtain rfl := Option.some.inj h
  by_cases h0 : 1 ≤ l0.length ∧ l0.length ≤ 40
  · have h1 : (decide ((1 : Int) ≤ (l0.length : Int)) && decide ((l0.length : Int) ≤ 40)) = true := by simp; omega
    have H2 := Aside0.mk h0
    have H1 := Aside0.mk h1
    clear h0
    have hE := Aside0.mk (show (!l0.any wear_Valid.okR) = (decide (1 ≤ l0.length) && decide (l0.length ≤ 40) && l0.all fun x => decide (0 ≤ x) && decide (x ≤ 10000)) by
      rw [decide_eq_true H2.out.1, decide_eq_true H2.out.2, List.not_any_eq_all_not]; simp [wear_Valid.okR])
    go_enter Try.func27, Try.ntmps27
    go_wp2_with (first | (go_at_call 52; refine (wear_Valid.within_calls _ _ _ _).mono ?_; rintro e w' ⟨rfl, ⟨n, rfl⟩⟩; rw [H1.out]) | (go_at_call 59; refine (wear_Valid.contains_calls wear_Valid.okR _ _ l0 _ (by repeat (first | exact HR0.out | (with_reducible refine Kd.C_drewN ?_ _))) hc0 (by have := H2.out; omega) wear_Valid.clos_calls).mono ?_; rintro e w' ⟨rfl, ⟨n, rfl⟩⟩))
    go_ret
    exact ⟨by rw [← hE.out]; rfl, by repeat (first | exact Drawn0.refl _ | apply Drawn0.step)⟩
  · have h1 : (decide ((1 : Int) ≤ (l0.length : Int)) && decide ((l0.length : Int) ≤ 40)) = false := by
      rw [Bool.eq_false_iff]; intro hh; apply h0; simp at hh; omega
    have H1 := Aside0.mk h1
    have hE := Aside0.mk (show false = (decide (1 ≤ l0.length) && decide (l0.length ≤ 40) && l0.all fun x => decide (0 ≤ x) && decide (x ≤ 10000)) by
      have h3 : (decide (1 ≤ l0.length) && decide (l0.length ≤ 40)) = false := by rw [Bool.eq_false_iff]; intro hh; apply h0; simpa using hh
      rw [h3]; rfl)
    clear h0 h1
    go_enter Try.func27, Try.ntmps27
    go_wp2_with (first | (go_at_call 52; refine (wear_Valid.within_calls _ _ _ _).mono ?_; rintro e w' ⟨rfl, ⟨n, rfl⟩⟩; rw [H1.out]))
    go_ret
    exact ⟨by rw [← hE.out]; rfl, by repeat (first | exact Drawn0.refl _ | apply Drawn0.step)⟩

/-! ### wear_within: function 52 -/
def wear_within.f (a0 : Int) (a1 : Int) (a2 : Int) : Option (Bool) := if a0 ≤ a1 then (some (decide (a1 ≤ a2))) else (some false)
set_option maxHeartbeats 8000000 in
set_option maxRecDepth 100000 in
theorem wear_within.calls (a0 : Int) (a1 : Int) (a2 : Int) (r : Bool) (w : World) (h : wear_within.f a0 a1 a2 = some r) :
    Calls Try.prog 52 #[.int .i64 a0, .int .i64 a1, .int .i64 a2] w fun e w' => e = .returned (.bool r) ∧ Drawn0 w w' := by
  have H : (if a0 ≤ a1 then (some (decide (a1 ≤ a2))) else (some false)) = some r := h
  clear h
  by_cases c4 : a0 ≤ a1
  · rw [if_pos c4] at H
    have c4b0 : decide (a0 ≤ a1) = true := decide_eq_true c4
    clear c4
    obtain rfl := Option.some.inj H
    go_enter Try.func52, Try.ntmps52
    go_wp2
    go_ret
    exact ⟨by first | rfl | (simp; done) | (simp [*]; done), by repeat (first | exact Drawn0.refl _ | apply Drawn0.step)⟩
  · rw [if_neg c4] at H
    have c4b0 : decide (a0 ≤ a1) = false := decide_eq_false c4
    clear c4
    obtain rfl := Option.some.inj H
    go_enter Try.func52, Try.ntmps52
    go_wp2
    go_ret
    exact ⟨by first | rfl | (simp; done) | (simp [*]; done), by repeat (first | exact Drawn0.refl _ | apply Drawn0.step)⟩

/-! ### slices_Sort_int_int: function 79 -/
theorem slices_Sort_int_int.reps_ints {w : World} {base : Nat} {ok : Nat → Prop} {xs : List Int} {cs : List Value} (h : Reps ((Kd.int .i64).M w base ok) 1 xs cs) : cs = xs.map (Value.int .i64) := by
  obtain ⟨h1, h2⟩ := h
  apply List.ext_getElem?
  intro j
  by_cases hj : j < xs.length
  · have h3 := h2 j xs[j] (by simp [hj])
    have h4 : (cs.drop (j * 1)).take 1 = [.int .i64 xs[j]] := h3
    have h5 : ((cs.drop (j * 1)).take 1)[0]? = some (.int .i64 xs[j]) := by rw [h4]; rfl
    rw [List.getElem?_take_of_lt (by omega), List.getElem?_drop] at h5
    simp only [Nat.mul_one, Nat.add_zero] at h5
    rw [h5]; simp [hj]
  · rw [List.getElem?_eq_none (by omega), List.getElem?_eq_none (by simp; omega)]

def slices_Sort_int_int.f (l0 : List Int) : Option (List Int) := if l0 = [] ∨ 4611686018427387904 ≤ l0.length then none else some (l0.mergeSort fun x y => decide (x ≤ y))
theorem slices_Sort_int_int.calls (P0_ : Nat → Prop) (u9000_ : Value) (l0 : List Int) (r : List Int) (w0 w : World) (hB : Below w0.heap.size w0 w) (ho0 : Kd.R (Kd.int .i64) 3 w w0.heap.size P0_ u9000_ l0) (h : slices_Sort_int_int.f l0 = some r) :
    Calls Try.prog 79 #[u9000_] w fun e w' => e = .returned (.tuple #[]) ∧ Kd.R (Kd.int .i64) 3 w' w0.heap.size (fun k_ => (P0_ k_ ∨ w.heap.size ≤ k_)) u9000_ r ∧ Below w0.heap.size w0 w' ∧ Kept w w' (fun k_ => P0_ k_) := by
  unfold slices_Sort_int_int.f at h
  by_cases hn : l0 = [] ∨ 4611686018427387904 ≤ l0.length
  · rw [if_pos hn] at h; cases h
  rw [if_neg hn] at h
  obtain rfl := Option.some.inj h
  obtain ⟨hok, inner, ho, hr⟩ := ho0
  obtain rfl := slices_Sort_int_int.reps_ints hr
  rcases ho.2 with ⟨_, h0⟩ | ⟨g, cap, cur, rfl, hg, hh, hnc, hcm, hcs, ht⟩
  · exact absurd (List.length_eq_zero_iff.1 h0) (fun hx => hn (.inl hx))
  have hb : g < w.heap.size := (Array.getElem?_eq_some_iff.1 hh).1
  have hcs' : cur.size = cap * 1 := hcs
  have ht' : cur.toList.take l0.length = l0.map (Value.int .i64) := by have h1 := ht; simp only [show (Kd.int IntKind.i64).sz = 1 from rfl, Nat.mul_one] at h1; exact h1
  refine (Try.slices_Sort_int g 0 cap l0 w (holds_of_blockI hh ht') hb (by omega)).mono ?_
  rintro e w' ⟨rfl, n, os, rfl⟩
  have hP : P0_ g := hok g (by simp [Value.ownBlock])
  have hsz : (l0.mergeSort fun x y => decide (x ≤ y)).length = l0.length := List.length_mergeSort _
  have hgr := grownBy_sortedI (w := w) (g := g) (n := n) (os := os) (l0.mergeSort fun x y => decide (x ≤ y)).toArray
  have hown := ownsRow_sortedI (w := w) (base := w0.heap.size) (n := n) (os := os) hsz hg hh hnc hcm hcs'
  refine ⟨rfl, ?_, ?_, ?_⟩
  · refine Kd.R_of_own (enc := Value.int .i64) (h1 := fun _ => rfl) ?_ ?_
    · rw [hsz]; exact hown
    · intro k hk
      simp [Value.ownBlock] at hk
      subst hk
      exact .inl hP
  · exact pw_below_grown hB (some g) hB.size hgr (fun k hk => by cases hk; exact hg)
  · exact Kept.of_grown hgr (Kept.refl _ _) (fun k hk => by cases hk; exact .inl hP)

/-! ### wear_median: function 53 -/
mutual
def wear_median.l0 : Nat → List Int → Int → List Int → Int → Int → Option (List Int)
  | 0, _, _, _, _, _ => none
  | k + 1, x0, x1, x5, x10, x11 => if x11 < x10 then (wear_median.l1 k x0 x1 x5 x11 ([] : List Int) (wrap64 (x11 - x1)) x10 x11) else (some x5)
def wear_median.l1 : Nat → List Int → Int → List Int → Int → List Int → Int → Int → Int → Option (List Int)
  | 0, _, _, _, _, _, _, _, _ => none
  | k + 1, x0, x1, x5, x6, x7, x8, x10, x11 => if x8 ≤ (wrap64 (x6 + x1)) then (if 0 ≤ (mn (mx x8 0) (wrap64 ((x0.length : Int) - 1))) then (if (mn (mx x8 0) (wrap64 ((x0.length : Int) - 1))) < (x0.length : Int) then (if x7.length < 17592186044416 then (wear_median.l1 k x0 x1 x5 x6 (x7 ++ [rd x0 (mn (mx x8 0) (wrap64 ((x0.length : Int) - 1)))]) (wrap64 (x8 + 1)) x10 x11) else (none)) else (none)) else (none)) else ((slices_Sort_int_int.f x7).bind fun t105 => (if 0 ≤ x1 then (if x1 < (x7.length : Int) then (if x5.length < 17592186044416 then (wear_median.l0 k x0 x1 (x5 ++ [rd t105 x1]) x10 (wrap64 (x11 + 1))) else (none)) else (none)) else (none)))
end
def wear_median.f (k : Nat) (l0 : List Int) (a1 : Int) : Option (List Int) := wear_median.l0 k l0 a1 ([] : List Int) (l0.length : Int) 0
theorem wear_median.mono_l : ∀ k, (∀ y0 y1 y2 y3 y4, LeO (wear_median.l0 k y0 y1 y2 y3 y4) (wear_median.l0 (k + 1) y0 y1 y2 y3 y4)) ∧ (∀ y0 y1 y2 y3 y4 y5 y6 y7, LeO (wear_median.l1 k y0 y1 y2 y3 y4 y5 y6 y7) (wear_median.l1 (k + 1) y0 y1 y2 y3 y4 y5 y6 y7))
  | 0 => ⟨fun _ _ _ _ _ r h => by simp [wear_median.l0] at h, fun _ _ _ _ _ _ _ _ r h => by simp [wear_median.l1] at h⟩
  | k + 1 => by
    obtain ⟨ih0, ih1⟩ := wear_median.mono_l k
    refine ⟨?_, ?_⟩
    · intro y0 y1 y2 y3 y4
      unfold wear_median.l0
      repeat' first
      | (with_reducible exact ih0 _ _ _ _ _)
      | (with_reducible exact ih1 _ _ _ _ _ _ _ _)
      | (with_reducible exact LeO.refl _)
      | (with_reducible exact LeO.none _)
      | (with_reducible refine LeO.ite ?_ ?_)
      | (with_reducible refine LeO.bind ?_ (fun _ => ?_))
      | exact ih0 _ _ _ _ _
      | exact ih1 _ _ _ _ _ _ _ _
      | exact LeO.none _
      | refine LeO.ite ?_ ?_
      | refine LeO.bind ?_ (fun _ => ?_)
    · intro y0 y1 y2 y3 y4 y5 y6 y7
      unfold wear_median.l1
      repeat' first
      | (with_reducible exact ih0 _ _ _ _ _)
      | (with_reducible exact ih1 _ _ _ _ _ _ _ _)
      | (with_reducible exact LeO.refl _)
      | (with_reducible exact LeO.none _)
      | (with_reducible refine LeO.ite ?_ ?_)
      | (with_reducible refine LeO.bind ?_ (fun _ => ?_))
      | exact ih0 _ _ _ _ _
      | exact ih1 _ _ _ _ _ _ _ _
      | exact LeO.none _
      | refine LeO.ite ?_ ?_
      | refine LeO.bind ?_ (fun _ => ?_)
theorem wear_median.mono : ∀ a0 a1 k, LeO (wear_median.f k a0 a1) (wear_median.f (k + 1) a0 a1) := by
  intro a0 a1 k
  obtain ⟨ih0, ih1⟩ := wear_median.mono_l k
  unfold wear_median.f
  repeat' first
      | (with_reducible exact ih0 _ _ _ _ _)
      | (with_reducible exact ih1 _ _ _ _ _ _ _ _)
      | (with_reducible exact LeO.refl _)
      | (with_reducible exact LeO.none _)
      | (with_reducible refine LeO.ite ?_ ?_)
      | (with_reducible refine LeO.bind ?_ (fun _ => ?_))
      | exact ih0 _ _ _ _ _
      | exact ih1 _ _ _ _ _ _ _ _
      | exact LeO.none _
      | refine LeO.ite ?_ ?_
      | refine LeO.bind ?_ (fun _ => ?_)
set_option maxHeartbeats 8000000 in
set_option maxRecDepth 100000 in
theorem wear_median.calls (k : Nat) (A0 : Option Addr) (c0 : Nat) (l0 : List Int) (a1 : Int) (r : List Int) (w : World) (hr0 : Kd.C (Kd.int .i64) w A0 l0.length l0) (hc0 : l0.length ≤ c0) (h : wear_median.f k l0 a1 = some r) :
    Calls Try.prog 53 #[.slice A0 l0.length c0, .int .i64 a1] w fun e w' => ∃ v0_ : Value, e = .returned (v0_) ∧ Kd.R (Kd.int .i64) 3 w' w.heap.size (fun _ => True) v0_ r ∧ Below w.heap.size w w' := by
  have HR0 := Aside0.mk hr0
  have HC0 := Aside0.mk hc0
  clear hr0 hc0
  have HB := Aside0.mk (Below.refl w.heap.size w)
  have H : (wear_median.l0 k l0 a1 ([] : List Int) (l0.length : Int) 0) = some r := h
  clear h
  have H' := Aside0.mk H
  clear H
  go_enter Try.func53, Try.ntmps53
  go_wp2
  go_loopg [5, 11] k (fun kq v5 v11 w' => ∃ (x5_1 : List Int) (x11_1 : Int), v11 = .int .i64 x11_1 ∧ Aside0 (wear_median.l0 kq l0 a1 x5_1 (l0.length : Int) x11_1 = some r) ∧ Aside0 (kq ≤ k) ∧ Aside0 (Kd.R (Kd.int .i64) 3 w' w.heap.size (fun _ => True) v5 x5_1) ∧ Aside0 (Below w.heap.size w w'))
  case atStart => exact ⟨(([] : List Int)), (0), (by first | rfl | (simp; done) | (simp [*]; done)), H', ⟨Nat.le_refl _⟩, ⟨by first | exact Kd.R_nil _ _ _ _ _ | exact Kd.N_nil _ _ _ _ _ | exact Kd.V_nil _ _ _ _ _ | exact Kd.Q_nil _ _ _ _ _ | exact Kd.S_nil _ _ _ _ _⟩, ⟨by repeat (first | (with_reducible first | exact HB.out | apply below_alloc | apply pw_below_drewN | apply below_drew1) | exact HB.out)⟩⟩
  case round =>
    clear H'
    try clear p2
    obtain ⟨x5_1, x11_1, rfl, HA, HK1, HO_5, HB⟩ := hrel
    cases gk with
    | zero => exact absurd HA.out (by simp [wear_median.l0])
    | succ k1 =>
      have H := HA.out
      clear HA
      simp only [wear_median.l0] at H
      by_cases c3 : x11_1 < (l0.length : Int)
      · rw [if_pos c3] at H
        have c3b0 : decide (x11_1 < (l0.length : Int)) = true := decide_eq_true c3
        clear c3
        have H' := Aside0.mk H
        clear H
        go_wp2
        go_loopg [7, 8] k1 (fun kq v7 v8 w' => ∃ (x7_2 : List Int) (x8_2 : Int), v8 = .int .i64 x8_2 ∧ Aside0 (wear_median.l1 kq l0 a1 x5_1 x11_1 x7_2 x8_2 (l0.length : Int) x11_1 = some r) ∧ Aside0 (kq ≤ k1) ∧ Aside0 (Kd.R (Kd.int .i64) 3 w' w.heap.size (fun k_ => some k_ ≠ (v7 : Value).ownBlock) u5 x5_1) ∧ Aside0 (Kd.R (Kd.int .i64) 3 w' w.heap.size (fun k_ => some k_ ≠ (u5 : Value).ownBlock) v7 x7_2) ∧ Aside0 (Below w.heap.size w w'))
        case atStart => exact ⟨(([] : List Int)), (wrap64 (x11_1 - a1)), (by first | rfl | (simp; done) | (simp [*]; done)), H', ⟨Nat.le_refl _⟩, ⟨by (with_reducible repeat (first | apply Kd.R_alloc | apply Kd.R_drewN | apply Kd.R_drew)); exact Kd.R_mono HO_5.out (fun _ hk => (by simp [Value.ownBlock]))⟩, ⟨by first | exact Kd.R_nil _ _ _ _ _ | exact Kd.N_nil _ _ _ _ _ | exact Kd.V_nil _ _ _ _ _ | exact Kd.Q_nil _ _ _ _ _ | exact Kd.S_nil _ _ _ _ _⟩, ⟨by repeat (first | (with_reducible first | exact HB.out | apply below_alloc | apply pw_below_drewN | apply below_drew1) | exact HB.out)⟩⟩
        case round =>
          clear H'
          try clear p2
          try clear c3
          try clear c3b0
          try clear p2
          obtain ⟨x7_2, x8_2, rfl, HA, HK2, HO_5, HO_7, HB⟩ := hrel
          cases gk with
          | zero => exact absurd HA.out (by simp [wear_median.l1])
          | succ k2 =>
            have H := HA.out
            clear HA
            simp only [wear_median.l1] at H
            by_cases c4 : x8_2 ≤ (wrap64 (x11_1 + a1))
            · rw [if_pos c4] at H
              have c4b0 : decide (x8_2 ≤ (wrap64 (x11_1 + a1))) = true := decide_eq_true c4
              clear c4
              obtain ⟨ji5, hji5⟩ : ∃ j_ : Int, (mx x8_2 0) = j_ := ⟨_, rfl⟩
              replace H : (if 0 ≤ (mn (ji5) (wrap64 ((l0.length : Int) - 1))) then (if (mn (ji5) (wrap64 ((l0.length : Int) - 1))) < (l0.length : Int) then (if x7_2.length < 17592186044416 then (wear_median.l1 k2 l0 a1 x5_1 x11_1 (x7_2 ++ [rd l0 (mn (ji5) (wrap64 ((l0.length : Int) - 1)))]) (wrap64 (x8_2 + 1)) (l0.length : Int) x11_1) else (none)) else (none)) else (none)) = some r := by first | (rw [hji5] at H; exact H) | (simp only [hji5] at H ⊢; exact H)
              have hji5_ : (if x8_2 < 0 then 0 else x8_2) = ji5 := hji5
              obtain ⟨ji6, hji6⟩ : ∃ j_ : Int, (mn (ji5) (wrap64 ((l0.length : Int) - 1))) = j_ := ⟨_, rfl⟩
              replace H : (if 0 ≤ (ji6) then (if (ji6) < (l0.length : Int) then (if x7_2.length < 17592186044416 then (wear_median.l1 k2 l0 a1 x5_1 x11_1 (x7_2 ++ [rd l0 (ji6)]) (wrap64 (x8_2 + 1)) (l0.length : Int) x11_1) else (none)) else (none)) else (none)) = some r := by first | (rw [hji6] at H; exact H) | (simp only [hji6] at H ⊢; exact H)
              have hji6_ : (if (wrap64 ((l0.length : Int) - 1)) < (ji5) then (wrap64 ((l0.length : Int) - 1)) else (ji5)) = ji6 := hji6
              by_cases c7 : 0 ≤ (ji6)
              · rw [if_pos c7] at H
                have c7b0 : decide (0 ≤ (ji6)) = true := decide_eq_true c7
                clear c7
                by_cases c8 : (ji6) < (l0.length : Int)
                · rw [if_pos c8] at H
                  have c8b0 : decide ((ji6) < (l0.length : Int)) = true := decide_eq_true c8
                  clear c8
                  by_cases c9 : x7_2.length < 17592186044416
                  · rw [if_pos c9] at H
                    have LMc9 := Aside0.mk c9
                    clear c9
                    obtain ⟨y102, hy102⟩ : ∃ y_ : List Int, y_ = (x7_2 ++ [rd l0 (ji6)]) := ⟨_, rfl⟩
                    replace H : (wear_median.l1 k2 l0 a1 x5_1 x11_1 y102 (wrap64 (x8_2 + 1)) (l0.length : Int) x11_1) = some r := by first | (rw [hy102]; with_reducible exact H) | (have H2_ := (Option.bind_some _ _).symm.trans H; rw [hy102]; with_reducible exact H2_) | (have H2_ := (Option.bind_some _ _).symm.trans H; with_reducible exact H2_) | with_reducible exact H | (rw [hy102]; exact H) | exact H
                    have Ny102 := Aside0.mk hy102
                    clear hy102
                    have H' := Aside0.mk H
                    clear H
                    have p101 : 0 ≤ ((ji6) : Int) := of_decide_eq_true (by first | (with_reducible assumption) | assumption)
                    have q101 : (ji6) < (l0.length : Int) := of_decide_eq_true (by first | (with_reducible assumption) | assumption)
                    obtain ⟨ad101, e101, hx101_0⟩ := Kd.at_int HR0.out (ji6) p101 q101
                    cases e101
                    replace hx101_0 := (HB.out.cell (World.block_lt_of_cell? w _ hx101_0)).trans hx101_0
                    replace p101 := eq_true p101
                    replace q101 := eq_true q101
                    go_wp2_with (first | ((with_reducible refine gate_builtin (b := .append) (xs := #[.tmp 24, .tmp 34]) rfl ?_); at_builtin; refine Kd.R_append (Kd.int .i64) (w0 := w) w.heap.size rfl (.tmp 24) (.tmp 34) 22 3 (.int .i64 0) 8 rfl Try.underlying22 info3 rfl (by decide) (by omega) u7 x7_2 (rd l0 (ji6)) [.int .i64 (rd l0 (ji6))] (fun k_ => some k_ ≠ (u5 : Value).ownBlock) (fun _ => False) rfl rfl ?aP (fun _ hk => hk.elim) ?aF ?aO ?aB ?aS ?aL ?_; (case aP => exact rfl); (case aB => exact (by repeat (first | (with_reducible first | exact HB.out | apply below_alloc | apply pw_below_drewN | apply below_drew1) | exact HB.out))); (case aF => exact (fun k_ hk => Kd.fresh' (Kd.R_lt (by (with_reducible repeat (first | apply Kd.R_alloc | apply Kd.R_drewN | apply Kd.R_drew)); exact HO_5.out)) k_ hk)); (case aO => exact (by (with_reducible repeat (first | apply Kd.R_alloc | apply Kd.R_drewN | apply Kd.R_drew)); exact HO_7.out)); (case aS => exact (below_size (by repeat (first | (with_reducible first | exact HB.out | apply below_alloc | apply pw_below_drewN | apply below_drew1) | exact HB.out)))); (case aL => have := LMc9.out; omega); intro v103 w10 ho hb hg hat; rw [← Ny102.out] at ho; have n0_ := Aside0.mk (Kd.R_after (ok := (fun _ => True)) (by (with_reducible repeat (first | apply Kd.R_alloc | apply Kd.R_drewN | apply Kd.R_drew)); exact Kd.R_mono HO_5.out (fun _ hk => ⟨trivial, hk⟩)) hg hat); have n1_ := Aside0.mk (hb); have n2_ := Aside0.mk (ho); clear HO_5; clear HB; clear HO_7; have HO_5 := n0_; have HB := n1_; have HO104 := n2_; clear n0_ n1_ n2_; clear ho hb hg hat))
                    go_roundg k2
                    case measure => have := HK1.out; have := HK2.out; omega
                    case rel => exact ⟨(y102), (wrap64 (x8_2 + 1)), (by first | rfl | (simp; done) | (simp [*]; done)), H', ⟨by have := HK1.out; have := HK2.out; omega⟩, ⟨by (with_reducible repeat (first | apply Kd.R_alloc | apply Kd.R_drewN | apply Kd.R_drew)); exact Kd.R_mono HO_5.out (fun _ hk => hk.2)⟩, ⟨by (with_reducible repeat (first | apply Kd.R_alloc | apply Kd.R_drewN | apply Kd.R_drew)); exact HO104.out⟩, ⟨by repeat (first | (with_reducible first | exact HB.out | apply below_alloc | apply pw_below_drewN | apply below_drew1) | exact HB.out)⟩⟩
                  · rw [if_neg c9] at H
                    exact absurd H (by simp)
                · rw [if_neg c8] at H
                  exact absurd H (by simp)
              · rw [if_neg c7] at H
                exact absurd H (by simp)
            · rw [if_neg c4] at H
              have c4b0 : decide (x8_2 ≤ (wrap64 (x11_1 + a1))) = false := decide_eq_false c4
              clear c4
              replace H := Option.bind_eq_some_iff.mp H
              obtain ⟨t105, A110, H⟩ := H
              replace H : (if 0 ≤ a1 then (if a1 < (x7_2.length : Int) then (if x5_1.length < 17592186044416 then (wear_median.l0 k2 l0 a1 (x5_1 ++ [rd t105 a1]) (l0.length : Int) (wrap64 (x11_1 + 1))) else (none)) else (none)) else (none)) = some r := H
              have A11 := Aside0.mk A110
              clear A110
              by_cases c12 : 0 ≤ a1
              · rw [if_pos c12] at H
                have c12b0 : decide (0 ≤ a1) = true := decide_eq_true c12
                clear c12
                by_cases c13 : a1 < (x7_2.length : Int)
                · rw [if_pos c13] at H
                  have c13b0 : decide (a1 < (x7_2.length : Int)) = true := decide_eq_true c13
                  clear c13
                  by_cases c14 : x5_1.length < 17592186044416
                  · rw [if_pos c14] at H
                    have LMc14 := Aside0.mk c14
                    clear c14
                    obtain ⟨y107, hy107⟩ : ∃ y_ : List Int, y_ = (x5_1 ++ [rd t105 a1]) := ⟨_, rfl⟩
                    replace H : (wear_median.l0 k2 l0 a1 y107 (l0.length : Int) (wrap64 (x11_1 + 1))) = some r := by first | (rw [hy107]; with_reducible exact H) | (have H2_ := (Option.bind_some _ _).symm.trans H; rw [hy107]; with_reducible exact H2_) | (have H2_ := (Option.bind_some _ _).symm.trans H; with_reducible exact H2_) | with_reducible exact H | (rw [hy107]; exact H) | exact H
                    have Ny107 := Aside0.mk hy107
                    clear hy107
                    have H' := Aside0.mk H
                    clear H
                    obtain ⟨Ao15, co15, eo15⟩ := Kd.R_slice HO_7.out
                    subst eo15
                    go_wp2_with (first | ((with_reducible refine gate_callee (f := 79) rfl ?_); refine goesL_ (some 37) rfl rfl Try.func79 (by kernel_rfl) rfl #[.slice Ao15 x7_2.length co15] rfl (by (try simp only [List.map_toArray, List.map_cons, List.map_nil]); first | done | rfl | (simp only [List.length_drop, List.length_take]; rfl)) ?_; (with_reducible refine (slices_Sort_int_int.calls (fun k_ => some k_ = (.slice Ao15 x7_2.length co15 : Value).ownBlock) (.slice Ao15 x7_2.length co15) x7_2 t105 w _ ?side1 ?side2 A11.out).mono ?_); (case side1 => repeat (first | (with_reducible first | exact HB.out | apply below_alloc | apply pw_below_drewN | apply below_drew1) | exact HB.out)); (case side2 => exact Kd.R_tight rfl HO_7.out); rintro e w16 ⟨rfl, hy0, hb, hkp⟩; refine ⟨_, rfl, ?_⟩; have n0_ := Aside0.mk (Kd.R_mono (ok' := fun k_ => some k_ ≠ (.slice Ao15 x7_2.length co15 : Value).ownBlock) (Kd.R_keptB (HO_5.out) hkp (fun k_ hk_ hs_ => (hk_) hs_)) (fun k_ hk_ => hk_.1)); have n1_ := Aside0.mk (Kd.R_reok rfl hy0 (fun k_ e_ => HO_7.out.1 k_ e_)); have n2_ := Aside0.mk (hb); clear HO_5; clear HO_7; clear HB; have HO_5 := n0_; have HO_7 := n1_; have HB := n2_; clear n0_ n1_ n2_; (try clear hb); (try clear hkp); (try clear hy0); have p106 : 0 ≤ (a1 : Int) := of_decide_eq_true (by first | (with_reducible assumption) | assumption); have q106 : a1 < (t105.length : Int) := (by have h_ : (a1 : Int) < ((x7_2.length : Int) : Int) := of_decide_eq_true (by first | (with_reducible assumption) | assumption); have e_ := (Kd.R_reads' HO_7.out).1; omega); have ql106 : ((a1 : Int) < ((x7_2.length : Int) : Int)) = True := eq_true (of_decide_eq_true (by first | (with_reducible assumption) | assumption)); obtain ⟨ad106, e106, hx106_0⟩ := Kd.at_int (Kd.R_reads' HO_7.out).2.2 a1 p106 q106; cases e106; replace p106 := eq_true p106; replace q106 := eq_true q106) | ((with_reducible refine gate_builtin (b := .append) (xs := #[.tmp 38, .tmp 43]) rfl ?_); at_builtin; refine Kd.R_append (Kd.int .i64) (w0 := w) w.heap.size rfl (.tmp 38) (.tmp 43) 22 3 (.int .i64 0) 8 rfl Try.underlying22 info3 rfl (by decide) (by omega) u5 x5_1 (rd t105 a1) [.int .i64 (rd t105 a1)] (fun k_ => some k_ ≠ (.slice (some ad106) x7_2.length co15 : Value).ownBlock) (fun _ => False) rfl rfl ?aP (fun _ hk => hk.elim) ?aF ?aO ?aB ?aS ?aL ?_; (case aP => exact rfl); (case aB => exact (by repeat (first | (with_reducible first | exact HB.out | apply below_alloc | apply pw_below_drewN | apply below_drew1) | exact HB.out))); (case aF => exact (fun k_ hk => Kd.fresh' (Kd.R_lt (by (with_reducible repeat (first | apply Kd.R_alloc | apply Kd.R_drewN | apply Kd.R_drew)); exact HO_7.out)) k_ hk)); (case aO => exact (by (with_reducible repeat (first | apply Kd.R_alloc | apply Kd.R_drewN | apply Kd.R_drew)); exact HO_5.out)); (case aS => exact (below_size (by repeat (first | (with_reducible first | exact HB.out | apply below_alloc | apply pw_below_drewN | apply below_drew1) | exact HB.out)))); (case aL => have := LMc14.out; omega); intro v108 w17 ho hb hg hat; rw [← Ny107.out] at ho; have n0_ := Aside0.mk (Kd.R_after (ok := (fun _ => True)) (by (with_reducible repeat (first | apply Kd.R_alloc | apply Kd.R_drewN | apply Kd.R_drew)); exact Kd.R_mono HO_7.out (fun _ hk => ⟨trivial, hk⟩)) hg hat); have n1_ := Aside0.mk (hb); have n2_ := Aside0.mk (ho); clear HO_7; clear HB; clear HO_5; have HO_7 := n0_; have HB := n1_; have HO109 := n2_; clear n0_ n1_ n2_; clear ho hb hg hat))
                    go_roundg k2
                    case measure => have := HK1.out; have := HK2.out; omega
                    case rel => exact ⟨(y107), (wrap64 (x11_1 + 1)), (by first | rfl | (simp; done) | (simp [*]; done)), H', ⟨by have := HK1.out; have := HK2.out; omega⟩, ⟨by (with_reducible repeat (first | apply Kd.R_alloc | apply Kd.R_drewN | apply Kd.R_drew)); exact Kd.R_mono HO109.out (fun _ hk => trivial)⟩, ⟨by repeat (first | (with_reducible first | exact HB.out | apply below_alloc | apply pw_below_drewN | apply below_drew1) | exact HB.out)⟩⟩
                  · rw [if_neg c14] at H
                    exact absurd H (by simp)
                · rw [if_neg c13] at H
                  exact absurd H (by simp)
              · rw [if_neg c12] at H
                exact absurd H (by simp)
      · rw [if_neg c3] at H
        have c3b0 : decide (x11_1 < (l0.length : Int)) = false := decide_eq_false c3
        clear c3
        obtain rfl := Option.some.inj H
        go_wp2
        go_ret
        exact ⟨_, by first | rfl | (simp [errW_none, errW_some] <;> rfl) | (simp [*, errW_none, errW_some] <;> rfl), by (with_reducible repeat (first | apply Kd.R_alloc | apply Kd.R_drewN | apply Kd.R_drew)); exact HO_5.out, by repeat (first | (with_reducible first | exact HB.out | apply below_alloc | apply pw_below_drewN | apply below_drew1) | exact HB.out)⟩

/-! ### wear_Median: function 16 -/
def wear_Median.f (k : Nat) (l0 : List Int) (a1 : Int) : Option (List Int × Int) := (wear_Valid.f l0).bind fun t110 => (if t110 = true then ((wear_within.f 0 a1 10).bind fun t111 => (if t111 = true then ((wear_median.f k l0 a1).bind fun t112 => (some (t112, 0))) else (some (([] : List Int), 2)))) else (some (([] : List Int), 70)))
theorem wear_Median.mono : ∀ a0 a1 k, LeO (wear_Median.f k a0 a1) (wear_Median.f (k + 1) a0 a1) := by
  intro a0 a1 k
  unfold wear_Median.f
  repeat' first
      | (with_reducible exact wear_median.mono _ _ _)
      | (with_reducible exact LeO.refl _)
      | (with_reducible exact LeO.none _)
      | (with_reducible refine LeO.ite ?_ ?_)
      | (with_reducible refine LeO.bind ?_ (fun _ => ?_))
      | exact wear_median.mono _ _ _
      | exact LeO.none _
      | refine LeO.ite ?_ ?_
      | refine LeO.bind ?_ (fun _ => ?_)
set_option maxHeartbeats 8000000 in
set_option maxRecDepth 100000 in
theorem wear_Median.calls (k : Nat) (A0 : Option Addr) (c0 : Nat) (l0 : List Int) (a1 : Int) (r1 : List Int) (r2 : Int) (w : World) (hr0 : Kd.C (Kd.int .i64) w A0 l0.length l0) (hc0 : l0.length ≤ c0) (h : wear_Median.f k l0 a1 = some (r1, r2)) :
    Calls Try.prog 16 #[.slice A0 l0.length c0, .int .i64 a1] w fun e w' => ∃ v0_ : Value, e = .returned (.tuple #[v0_, .int .i64 r2]) ∧ Kd.R (Kd.int .i64) 3 w' w.heap.size (fun _ => True) v0_ r1 ∧ Below w.heap.size w w' := by
  have HR0 := Aside0.mk hr0
  have HC0 := Aside0.mk hc0
  clear hr0 hc0
  have HB := Aside0.mk (Below.refl w.heap.size w)
  have H : ((wear_Valid.f l0).bind fun t110 => (if t110 = true then ((wear_within.f 0 a1 10).bind fun t111 => (if t111 = true then ((wear_median.f k l0 a1).bind fun t112 => (some (t112, 0))) else (some (([] : List Int), 2)))) else (some (([] : List Int), 70)))) = some (r1, r2) := h
  clear h
  replace H := Option.bind_eq_some_iff.mp H
  obtain ⟨t110, A30, H⟩ := H
  replace H : (if t110 = true then ((wear_within.f 0 a1 10).bind fun t111 => (if t111 = true then ((wear_median.f k l0 a1).bind fun t112 => (some (t112, 0))) else (some (([] : List Int), 2)))) else (some (([] : List Int), 70))) = some (r1, r2) := H
  have A3 := Aside0.mk A30
  clear A30
  by_cases c4 : t110 = true
  · subst c4
    have H1 : ((wear_within.f 0 a1 10).bind fun t111 => (if t111 = true then ((wear_median.f k l0 a1).bind fun t112 => (some (t112, 0))) else (some (([] : List Int), 2)))) = some (r1, r2) := by rw [if_pos rfl] at H; exact H
    clear H
    have H := H1
    clear H1
    replace H := Option.bind_eq_some_iff.mp H
    obtain ⟨t111, A50, H⟩ := H
    replace H : (if t111 = true then ((wear_median.f k l0 a1).bind fun t112 => (some (t112, 0))) else (some (([] : List Int), 2))) = some (r1, r2) := H
    have A5 := Aside0.mk A50
    clear A50
    by_cases c6 : t111 = true
    · subst c6
      have H1 : ((wear_median.f k l0 a1).bind fun t112 => (some (t112, 0))) = some (r1, r2) := by rw [if_pos rfl] at H; exact H
      clear H
      have H := H1
      clear H1
      replace H := Option.bind_eq_some_iff.mp H
      obtain ⟨t112, A70, H⟩ := H
      replace H : (some (t112, 0)) = some (r1, r2) := H
      have A7 := Aside0.mk A70
      clear A70
      simp only [Option.some.injEq, Prod.mk.injEq] at H
      obtain ⟨rfl, rfl⟩ := H
      go_enter Try.func16, Try.ntmps16
      go_wp2_with (first | ((with_reducible refine gate_callee (f := 27) rfl ?_); refine goesL_ (some 8) rfl rfl Try.func27 (by kernel_rfl) rfl #[.slice A0 l0.length c0] rfl (by (try simp only [List.map_toArray, List.map_cons, List.map_nil]); first | done | rfl | (simp only [List.length_drop, List.length_take]; rfl)) ?_; (with_reducible refine (wear_Valid.calls _ _ l0 true _ ?side1 ?side2 A3.out).mono ?_); (case side1 => repeat (first | exact HR0.out | (with_reducible refine Kd.C_alloc ?_ _) | (with_reducible refine Kd.C_drewN ?_ _) | (with_reducible refine Kd.C_drew ?_))); (case side2 => exact HC0.out); rintro e w' ⟨rfl, ⟨nd, rfl⟩⟩; refine ⟨_, rfl, ?_⟩) | ((with_reducible refine gate_callee (f := 52) rfl ?_); refine goesL_ (some 12) rfl rfl Try.func52 (by kernel_rfl) rfl #[.int .i64 0, .int .i64 a1, .int .i64 10] rfl (by (try simp only [List.map_toArray, List.map_cons, List.map_nil]); first | done | rfl | (simp only [List.length_drop, List.length_take]; rfl)) ?_; (with_reducible refine (wear_within.calls 0 a1 10 true _ A5.out).mono ?_); rintro e w' ⟨rfl, ⟨nd, rfl⟩⟩; refine ⟨_, rfl, ?_⟩) | ((with_reducible refine gate_callee (f := 53) rfl ?_); refine goesL_ (some 16) rfl rfl Try.func53 (by kernel_rfl) rfl #[.slice A0 l0.length c0, .int .i64 a1] rfl (by (try simp only [List.map_toArray, List.map_cons, List.map_nil]); first | done | rfl | (simp only [List.length_drop, List.length_take]; rfl)) ?_; (with_reducible refine (wear_median.calls k _ _ l0 a1 t112 _ ?side1 ?side2 A7.out).mono ?_); (case side1 => repeat (first | exact HR0.out | (with_reducible refine Kd.C_alloc ?_ _) | (with_reducible refine Kd.C_drewN ?_ _) | (with_reducible refine Kd.C_drew ?_))); (case side2 => exact HC0.out); rintro e w8 ⟨v113, rfl, ho0, hb⟩; refine ⟨_, rfl, ?_⟩; have n0_ := Aside0.mk (Kd.R_lower ho0 (below_size (by repeat (first | (with_reducible first | exact HB.out | apply below_alloc | apply pw_below_drewN | apply below_drew1) | exact HB.out)))); have n1_ := Aside0.mk (below_step (by repeat (first | (with_reducible first | exact HB.out | apply below_alloc | apply pw_below_drewN | apply below_drew1) | exact HB.out)) hb); clear HB; have HO114 := n0_; have HB := n1_; clear n0_ n1_; (try clear hb); (try clear hb2); (try clear hk); (try clear hi); (try clear ho0)))
      go_ret2
      exact ⟨_, by first | rfl | (simp [errW_none, errW_some] <;> rfl) | (simp [*, errW_none, errW_some] <;> rfl), by (with_reducible repeat (first | apply Kd.R_alloc | apply Kd.R_drewN | apply Kd.R_drew)); exact HO114.out, by repeat (first | (with_reducible first | exact HB.out | apply below_alloc | apply pw_below_drewN | apply below_drew1) | exact HB.out)⟩
    · replace c6 := Bool.eq_false_iff.mpr c6
      subst c6
      have H1 : (some (([] : List Int), 2)) = some (r1, r2) := by rw [if_neg (show ¬ (false = true) by decide)] at H; exact H
      clear H
      have H := H1
      clear H1
      simp only [Option.some.injEq, Prod.mk.injEq] at H
      obtain ⟨rfl, rfl⟩ := H
      go_enter Try.func16, Try.ntmps16
      go_wp2_with (first | ((with_reducible refine gate_callee (f := 27) rfl ?_); refine goesL_ (some 8) rfl rfl Try.func27 (by kernel_rfl) rfl #[.slice A0 l0.length c0] rfl (by (try simp only [List.map_toArray, List.map_cons, List.map_nil]); first | done | rfl | (simp only [List.length_drop, List.length_take]; rfl)) ?_; (with_reducible refine (wear_Valid.calls _ _ l0 true _ ?side1 ?side2 A3.out).mono ?_); (case side1 => repeat (first | exact HR0.out | (with_reducible refine Kd.C_alloc ?_ _) | (with_reducible refine Kd.C_drewN ?_ _) | (with_reducible refine Kd.C_drew ?_))); (case side2 => exact HC0.out); rintro e w' ⟨rfl, ⟨nd, rfl⟩⟩; refine ⟨_, rfl, ?_⟩) | ((with_reducible refine gate_callee (f := 52) rfl ?_); refine goesL_ (some 12) rfl rfl Try.func52 (by kernel_rfl) rfl #[.int .i64 0, .int .i64 a1, .int .i64 10] rfl (by (try simp only [List.map_toArray, List.map_cons, List.map_nil]); first | done | rfl | (simp only [List.length_drop, List.length_take]; rfl)) ?_; (with_reducible refine (wear_within.calls 0 a1 10 false _ A5.out).mono ?_); rintro e w' ⟨rfl, ⟨nd, rfl⟩⟩; refine ⟨_, rfl, ?_⟩))
      go_ret2
      exact ⟨_, by first | rfl | (simp [errW_none, errW_some] <;> rfl) | (simp [*, errW_none, errW_some] <;> rfl), by first | exact Kd.R_nil _ _ _ _ _ | exact Kd.N_nil _ _ _ _ _ | exact Kd.V_nil _ _ _ _ _ | exact Kd.Q_nil _ _ _ _ _ | exact Kd.S_nil _ _ _ _ _, by repeat (first | (with_reducible first | exact HB.out | apply below_alloc | apply pw_below_drewN | apply below_drew1) | exact HB.out)⟩
  · replace c4 := Bool.eq_false_iff.mpr c4
    subst c4
    have H1 : (some (([] : List Int), 70)) = some (r1, r2) := by rw [if_neg (show ¬ (false = true) by decide)] at H; exact H
    clear H
    have H := H1
    clear H1
    simp only [Option.some.injEq, Prod.mk.injEq] at H
    obtain ⟨rfl, rfl⟩ := H
    go_enter Try.func16, Try.ntmps16
    go_wp2_with (first | ((with_reducible refine gate_callee (f := 27) rfl ?_); refine goesL_ (some 8) rfl rfl Try.func27 (by kernel_rfl) rfl #[.slice A0 l0.length c0] rfl (by (try simp only [List.map_toArray, List.map_cons, List.map_nil]); first | done | rfl | (simp only [List.length_drop, List.length_take]; rfl)) ?_; (with_reducible refine (wear_Valid.calls _ _ l0 false _ ?side1 ?side2 A3.out).mono ?_); (case side1 => repeat (first | exact HR0.out | (with_reducible refine Kd.C_alloc ?_ _) | (with_reducible refine Kd.C_drewN ?_ _) | (with_reducible refine Kd.C_drew ?_))); (case side2 => exact HC0.out); rintro e w' ⟨rfl, ⟨nd, rfl⟩⟩; refine ⟨_, rfl, ?_⟩))
    go_ret2
    exact ⟨_, by first | rfl | (simp [errW_none, errW_some] <;> rfl) | (simp [*, errW_none, errW_some] <;> rfl), by first | exact Kd.R_nil _ _ _ _ _ | exact Kd.N_nil _ _ _ _ _ | exact Kd.V_nil _ _ _ _ _ | exact Kd.Q_nil _ _ _ _ _ | exact Kd.S_nil _ _ _ _ _, by repeat (first | (with_reducible first | exact HB.out | apply below_alloc | apply pw_below_drewN | apply below_drew1) | exact HB.out)⟩

end Go.Proofs.Ytpdcpekjafcohaa.XWear
