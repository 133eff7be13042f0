-- Written by wip/xprint.py of this repo, over the kit's print.py: out of the translation; the oracles in it are by hand. Not trusted: Lean checks it.
import Derived.Test.YtpdcpekjafcohaaXWearx0
import Derived.Test.YtpdcpekjafcohaaXWearx2
import Derived.Test.YtpdcpekjafcohaaXWearx6
namespace Go.Proofs.Ytpdcpekjafcohaa.XWear
open Go.RowKit Go.Proofs.YtpdcpekjafcohaaW.PrintWords Go.Proofs.YtpdcpekjafcohaaW.PrintLast Go.Proofs.YtpdcpekjafcohaaW.PrintMore
attribute [local go_sem] max2_int min2_int max_two min_two max_three min_three max_four min_four   -- for this text's walks alone
set_option linter.unusedVariables false
set_option linter.unusedSimpArgs false

/-! ### wear_Due: function 31 -/

def wear_Due.due (lim : Int) (x : S35) : Bool := decide (wrap64 (lim * x.f1) ≤ x.f0)
set_option maxHeartbeats 1000000 in
set_option maxRecDepth 100000 in
theorem wear_Due.clos_due (lim : Int) (g : Nat) (x : S35) (w : World) (hcap : w.cell? ⟨g, 0, none⟩ = some (.int .i64 lim)) :
    Calls Try.prog 63 #[.agg #[.int .i64 x.f0, .int .i64 x.f1], .pointer (some ⟨g, 0, none⟩)] w fun e w' => e = .returned (.bool (wear_Due.due lim x)) ∧ Below w.heap.size w w' := by
  have hu := Try.underlying35
  have hB0 : ∀ o, Aside0 (Below w.heap.size w (w.alloc o)) := fun o => ⟨below_alloc (Below.refl _ _) o⟩
  have hg : g < w.heap.size := by
    unfold World.cell? at hcap
    split at hcap
    · rename_i h; exact (Array.getElem?_eq_some_iff.1 h).1
    · cases hcap
  have hcap2 : ∀ o, (w.alloc o).cell? ⟨g, 0, none⟩ = some (.int .i64 lim) := fun o => by rw [← hcap]; exact ((below_alloc (Below.refl w.heap.size w) o).cell hg)
  go_enter Try.func63, Try.ntmps63
  go_wp2
  go_ret
  exact ⟨rfl, by repeat (first | exact (hB0 _).out | apply pw_below_drewN)⟩

def wear_Due.idxFrom (p : S35 → Bool) (l : List S35) : Int := if l.any p then (l.findIdx p : Int) else -1
theorem wear_Due.idxFrom_at {p : S35 → Bool} {l : List S35} {i : Nat} (hi : i < l.length) (hp : p l[i] = true) (hb : ∀ j (h : j < l.length), j < i → p l[j] = false) : wear_Due.idxFrom p l = i := by
  have ha : l.any p = true := List.any_eq_true.2 ⟨l[i], List.getElem_mem hi, hp⟩
  have hf : l.findIdx p = i := by
    rw [List.findIdx_eq hi]
    exact ⟨hp, fun j hj => hb j _ hj⟩
  simp [wear_Due.idxFrom, ha, hf]
theorem wear_Due.idxFrom_none {p : S35 → Bool} {l : List S35} (hb : ∀ j (h : j < l.length), j < l.length → p l[j] = false) : wear_Due.idxFrom p l = -1 := by
  have ha : l.any p = false := by
    rw [List.any_eq_false]
    intro x hx
    obtain ⟨j, hj, rfl⟩ := List.mem_iff_getElem.1 hx
    simp [hb j hj hj]
  simp [wear_Due.idxFrom, ha]
theorem wear_Due.rd_get (l : List S35) (x : Int) (h0 : 0 ≤ x) (h1 : x < (l.length : Int)) : ∃ h : x.toNat < l.length, rd_T35 l x = l[x.toNat] := by
  have h : x.toNat < l.length := by omega
  exact ⟨h, by simp [rd_T35, List.getD_eq_getElem?_getD, h]⟩
theorem wear_Due.idx_ge (p : S35 → Bool) (l : List S35) : decide (0 ≤ wear_Due.idxFrom p l) = l.any p := by
  unfold wear_Due.idxFrom
  by_cases h : l.any p = true
  · simp [h]
  · have h2 : l.any p = false := by simpa using h
    simp [h2]

set_option maxHeartbeats 2000000 in
theorem wear_Due.index_due (lim : Int) (g : Nat) (A0 : Option Addr) (c0 : Nat) (l0 : List S35) (w : World) (hr0 : Kd.C k35 w A0 l0.length l0) (hc0 : l0.length ≤ c0) (hcap : ∀ W, Below w.heap.size w W → W.cell? ⟨g, 0, none⟩ = some (.int .i64 lim)) :
    Calls Try.prog 62 #[.slice A0 l0.length c0, .func (.func 63) #[] #[.pointer (some ⟨g, 0, none⟩)]] w fun e w' => e = .returned (.int .i64 (wear_Due.idxFrom (wear_Due.due lim) l0)) ∧ Below w.heap.size w w' := by
  have hl : l0.length ≤ 9223372036854775807 := hr0.2.1
  have HR := Aside0.mk hr0
  clear hr0
  have HCAP := Aside0.mk hcap
  clear hcap
  have hu := Try.underlying35
  go_enter Try.func62, Try.ntmps62
  go_wp2
  go_loopg [5, 8] l0.length (fun kq v5 v8 w' => ∃ x : Int, v8 = .int .i64 x ∧ Aside0 (0 ≤ x ∧ x ≤ l0.length ∧ ∀ j (h : j < l0.length), (j : Int) < x → (wear_Due.due lim) l0[j] = false) ∧ Aside0 (kq = l0.length - x.toNat) ∧ Aside0 (Below w.heap.size w w'))
  case atStart => exact ⟨0, rfl, ⟨by omega, by omega, fun _ _ h => by omega⟩, ⟨rfl⟩, ⟨Below.refl _ _⟩⟩
  case round =>
    obtain ⟨x, rfl, HI, HK, HB⟩ := hrel
    by_cases hlt : x < (l0.length : Int)
    · have h1 : decide (x < (l0.length : Int)) = true := decide_eq_true hlt
      have p1 : 0 ≤ x := HI.out.1
      have HR0 := Aside0.mk (Kd.C_below HR.out HB.out)
      obtain ⟨ad, e1, hx0, hx1⟩ := at_T35 HR0.out x p1 hlt
      cases e1
      have HX := Aside0.mk (And.intro p1 hlt)
      replace p1 := eq_true p1
      replace hlt := eq_true hlt
      by_cases hp : (wear_Due.due lim) (rd_T35 l0 x) = true
      · go_wp2_with (go_at_call 63; refine (wear_Due.clos_due lim g (rd_T35 l0 x) _ (HCAP.out _ HB.out)).mono ?_; rintro e w' ⟨rfl, hb⟩; have HB2 := Aside0.mk hb; clear hb)
        go_ret
        obtain ⟨h2, h3⟩ := wear_Due.rd_get l0 x HX.out.1 HX.out.2
        rw [h3] at hp
        refine ⟨?_, below_step HB.out HB2.out⟩
        rw [wear_Due.idxFrom_at h2 hp (fun j hj hl => HI.out.2.2 j hj (by omega)), Int.toNat_of_nonneg HX.out.1]; rfl
      · replace hp := Bool.eq_false_iff.mpr hp
        go_wp2_with (go_at_call 63; refine (wear_Due.clos_due lim g (rd_T35 l0 x) _ (HCAP.out _ HB.out)).mono ?_; rintro e w' ⟨rfl, hb⟩; have HB2 := Aside0.mk hb; clear hb)
        go_roundg (l0.length - (x + 1).toNat)
        case measure => have := HX.out; have := HK.out; omega
        case rel =>
          obtain ⟨h2, h3⟩ := wear_Due.rd_get l0 x HX.out.1 HX.out.2
          have hw : wrap64 (x + 1) = x + 1 := by unfold wrap64; have := HX.out; omega
          refine ⟨x + 1, by first | rfl | rw [hw], ⟨by have := HX.out; omega, by have := HX.out; omega, fun j hj hl => ?_⟩, ⟨rfl⟩, ⟨below_step HB.out HB2.out⟩⟩
          by_cases hjx : (j : Int) < x
          · exact HI.out.2.2 j hj hjx
          · have : j = x.toNat := by omega
            subst this
            rw [← h3]; exact hp
    · have h1 : decide (x < (l0.length : Int)) = false := decide_eq_false hlt
      go_wp2
      go_ret
      refine ⟨?_, HB.out⟩
      rw [wear_Due.idxFrom_none (fun j hj hl => HI.out.2.2 j hj (by omega))]; rfl

def wear_Due.f (k : Nat) (l0 : List Int) (a1 : Int) : Option (Int × Int) := (wear_Valid.f l0).bind fun t => if t = true then ((wear_within.f 0 a1 10000).bind fun t2 => if t2 = true then ((wear_nearest.f k l0).bind fun t3 => if wear_Due.idxFrom (wear_Due.due a1) t3 < 0 then some (0, 5) else some (wear_Due.idxFrom (wear_Due.due a1) t3, 0)) else some (0, 2)) else some (0, 70)
theorem wear_Due.mono : ∀ a0 a1 k, LeO (wear_Due.f k a0 a1) (wear_Due.f (k + 1) a0 a1) := by
  intro a0 a1 k
  unfold wear_Due.f
  repeat' first
      | exact wear_nearest.mono _ _
      | exact LeO.refl _
      | refine LeO.ite ?_ ?_
      | refine LeO.bind ?_ (fun _ => ?_)
set_option maxHeartbeats 2000000 in
set_option maxRecDepth 100000 in
theorem wear_Due.calls (k : Nat) (A0 : Option Addr) (c0 : Nat) (l0 : List Int) (a1 : Int) (r1 r2 : Int) (w : World) (hr0 : Kd.C (Kd.int .i64) w A0 l0.length l0) (hc0 : l0.length ≤ c0) (h : wear_Due.f k l0 a1 = some (r1, r2)) :
    Calls Try.prog 31 #[.slice A0 l0.length c0, .int .i64 a1] w fun e w' => e = .returned (.tuple #[.int .i64 r1, .int .i64 r2]) ∧ Below w.heap.size w w' := by
  have hu := Try.underlying35
  unfold wear_Due.f at h
  obtain ⟨t, hv, h⟩ := Option.bind_eq_some_iff.mp h
  have HR := Aside0.mk hr0
  clear hr0
  have HV := Aside0.mk hv
  clear hv
  have hcell : Aside0 (∀ W, Below (w.alloc (.cells #[.int .i64 a1] 3)).heap.size (w.alloc (.cells #[.int .i64 a1] 3)) W → W.cell? ⟨w.heap.size, 0, none⟩ = some (.int .i64 a1)) := ⟨fun W hb => by
    rw [hb.cell (by show w.heap.size < (w.heap.push _).size; rw [Array.size_push]; omega), World.cell?_alloc_at _ _ _ _ rfl]; rfl⟩
  have hB0 : Aside0 (Below w.heap.size w (w.alloc (.cells #[.int .i64 a1] 3))) := ⟨below_alloc (Below.refl _ _) _⟩
  have hB1 : Aside0 (Below (w.alloc (.cells #[.int .i64 a1] 3)).heap.size (w.alloc (.cells #[.int .i64 a1] 3)) (w.alloc (.cells #[.int .i64 a1] 3))) := ⟨Below.refl _ _⟩
  by_cases ht : t = true
  · subst ht
    rw [if_pos rfl] at h
    obtain ⟨t2, hw, h⟩ := Option.bind_eq_some_iff.mp h
    have HW := Aside0.mk hw
    clear hw
    by_cases ht2 : t2 = true
    · subst ht2
      rw [if_pos rfl] at h
      obtain ⟨t3, hn, h⟩ := Option.bind_eq_some_iff.mp h
      have HN := Aside0.mk hn
      clear hn
      by_cases hi : wear_Due.idxFrom (wear_Due.due a1) t3 < 0
      · rw [if_pos hi] at h
        obtain ⟨rfl, rfl⟩ := Prod.mk.inj (Option.some.inj h)
        have hd : decide (wear_Due.idxFrom (wear_Due.due a1) t3 < 0) = true := decide_eq_true hi
        clear h hi
        go_enter Try.func31, Try.ntmps31
        go_wp2_with (first
          | (go_at_call 27; (with_reducible refine (wear_Valid.calls _ _ l0 _ _ (Kd.C_below HR.out hB0.out) hc0 HV.out).mono ?_); rintro e w' ⟨rfl, ⟨n, rfl⟩⟩)
          | (go_at_call 52; (with_reducible refine (wear_within.calls 0 a1 10000 _ _ HW.out).mono ?_); rintro e w' ⟨rfl, ⟨m, rfl⟩⟩)
          | (go_at_call 56; ((refine (wear_nearest.calls k _ _ l0 _ _ (Kd.C_drewN (Kd.C_below HR.out hB0.out) _) hc0 HN.out).mono ?_); rintro e w' ⟨v, rfl, ho, hb⟩; have HB := Aside0.mk (below_step (pw_below_drewN hB0.out _) hb); have HB1 := Aside0.mk (below_step (pw_below_drewN hB1.out _) hb); obtain ⟨A, c, rfl, hc, hC⟩ := Kd.R_reads ho; have HC := Aside0.mk hC; clear hb ho hC))
          | (go_at_call 62; (refine (wear_Due.index_due a1 w.heap.size A c t3 _ HC.out hc (fun W hb => hcell.out W (below_step HB1.out hb))).mono ?_); rintro e w' ⟨rfl, hb⟩; have HB2 := Aside0.mk hb; clear hb))
        go_ret2
        exact ⟨rfl, below_step HB.out HB2.out⟩
      · rw [if_neg hi] at h
        obtain ⟨rfl, rfl⟩ := Prod.mk.inj (Option.some.inj h)
        have hd : decide (wear_Due.idxFrom (wear_Due.due a1) t3 < 0) = false := decide_eq_false hi
        clear h hi
        go_enter Try.func31, Try.ntmps31
        go_wp2_with (first
          | (go_at_call 27; (with_reducible refine (wear_Valid.calls _ _ l0 _ _ (Kd.C_below HR.out hB0.out) hc0 HV.out).mono ?_); rintro e w' ⟨rfl, ⟨n, rfl⟩⟩)
          | (go_at_call 52; (with_reducible refine (wear_within.calls 0 a1 10000 _ _ HW.out).mono ?_); rintro e w' ⟨rfl, ⟨m, rfl⟩⟩)
          | (go_at_call 56; ((refine (wear_nearest.calls k _ _ l0 _ _ (Kd.C_drewN (Kd.C_below HR.out hB0.out) _) hc0 HN.out).mono ?_); rintro e w' ⟨v, rfl, ho, hb⟩; have HB := Aside0.mk (below_step (pw_below_drewN hB0.out _) hb); have HB1 := Aside0.mk (below_step (pw_below_drewN hB1.out _) hb); obtain ⟨A, c, rfl, hc, hC⟩ := Kd.R_reads ho; have HC := Aside0.mk hC; clear hb ho hC))
          | (go_at_call 62; (refine (wear_Due.index_due a1 w.heap.size A c t3 _ HC.out hc (fun W hb => hcell.out W (below_step HB1.out hb))).mono ?_); rintro e w' ⟨rfl, hb⟩; have HB2 := Aside0.mk hb; clear hb))
        go_ret2
        exact ⟨rfl, below_step HB.out HB2.out⟩
    · rw [if_neg ht2] at h
      obtain rfl := Bool.eq_false_iff.mpr ht2
      obtain ⟨rfl, rfl⟩ := Prod.mk.inj (Option.some.inj h)
      go_enter Try.func31, Try.ntmps31
      go_wp2_with (first
        | (go_at_call 27; (with_reducible refine (wear_Valid.calls _ _ l0 _ _ (Kd.C_below HR.out hB0.out) hc0 HV.out).mono ?_); rintro e w' ⟨rfl, ⟨n, rfl⟩⟩)
        | (go_at_call 52; (with_reducible refine (wear_within.calls 0 a1 10000 _ _ HW.out).mono ?_); rintro e w' ⟨rfl, ⟨m, rfl⟩⟩))
      go_ret2
      exact ⟨rfl, by repeat (first | exact hB0.out | apply pw_below_drewN)⟩
  · rw [if_neg ht] at h
    obtain rfl := Bool.eq_false_iff.mpr ht
    obtain ⟨rfl, rfl⟩ := Prod.mk.inj (Option.some.inj h)
    go_enter Try.func31, Try.ntmps31
    go_wp2_with (go_at_call 27; (with_reducible refine (wear_Valid.calls _ _ l0 _ _ (Kd.C_below HR.out hB0.out) hc0 HV.out).mono ?_); rintro e w' ⟨rfl, ⟨n, rfl⟩⟩)
    go_ret2
    exact ⟨rfl, by repeat (first | exact hB0.out | apply pw_below_drewN)⟩

/-! ### slices_ContainsFunc_int_int: function 59 -/
theorem slices_ContainsFunc_int_int.within_calls (a b c : Int) (w : World) :
    Calls Try.prog 52 #[.int .i64 a, .int .i64 b, .int .i64 c] w fun e w' => e = .returned (.bool (decide (a ≤ b) && decide (b ≤ c))) ∧ Drawn0 w w' := by
  by_cases h1 : a ≤ b
  · have h1' : decide (a ≤ b) = true := decide_eq_true h1
    go_enter Try.func52, Try.ntmps52
    go_wp2
    go_ret
    exact ⟨by simp [h1], Drawn0.refl _⟩
  · have h1' : decide (a ≤ b) = false := decide_eq_false h1
    go_enter Try.func52, Try.ntmps52
    go_wp2
    go_ret
    exact ⟨by simp [h1], Drawn0.refl _⟩

def slices_ContainsFunc_int_int.bad (x : Int) : Bool := !(decide (0 ≤ x) && decide (x ≤ 1000000000))
theorem slices_ContainsFunc_int_int.clos_since (x : Int) (w : World) :
    Calls Try.prog 64 #[.int .i64 x] w fun e w' => e = .returned (.bool (slices_ContainsFunc_int_int.bad x)) ∧ Drawn0 w w' := by
  go_enter Try.func64, Try.ntmps64
  go_wp2_with (go_at_call 52; refine (slices_ContainsFunc_int_int.within_calls _ _ _ _).mono ?_; rintro e w' ⟨rfl, ⟨n, rfl⟩⟩)
  go_ret
  exact ⟨by simp [slices_ContainsFunc_int_int.bad], by repeat (first | exact Drawn0.refl _ | apply Drawn0.step)⟩

def slices_ContainsFunc_int_int.idxFrom (p : Int → Bool) (l : List Int) : Int := if l.any p then (l.findIdx p : Int) else -1
theorem slices_ContainsFunc_int_int.idxFrom_at {p : Int → Bool} {l : List Int} {i : Nat} (hi : i < l.length) (hp : p l[i] = true) (hb : ∀ j (h : j < l.length), j < i → p l[j] = false) : slices_ContainsFunc_int_int.idxFrom p l = i := by
  have ha : l.any p = true := List.any_eq_true.2 ⟨l[i], List.getElem_mem hi, hp⟩
  have hf : l.findIdx p = i := by
    rw [List.findIdx_eq hi]
    exact ⟨hp, fun j hj => hb j _ hj⟩
  simp [slices_ContainsFunc_int_int.idxFrom, ha, hf]
theorem slices_ContainsFunc_int_int.idxFrom_none {p : Int → Bool} {l : List Int} (hb : ∀ j (h : j < l.length), j < l.length → p l[j] = false) : slices_ContainsFunc_int_int.idxFrom p l = -1 := by
  have ha : l.any p = false := by
    rw [List.any_eq_false]
    intro x hx
    obtain ⟨j, hj, rfl⟩ := List.mem_iff_getElem.1 hx
    simp [hb j hj hj]
  simp [slices_ContainsFunc_int_int.idxFrom, ha]
theorem slices_ContainsFunc_int_int.rd_get (l : List Int) (x : Int) (h0 : 0 ≤ x) (h1 : x < (l.length : Int)) : ∃ h : x.toNat < l.length, rd l x = l[x.toNat] := by
  have h : x.toNat < l.length := by omega
  exact ⟨h, by simp [rd, List.getD_eq_getElem?_getD, h]⟩
theorem slices_ContainsFunc_int_int.idx_ge (p : Int → Bool) (l : List Int) : decide (0 ≤ slices_ContainsFunc_int_int.idxFrom p l) = l.any p := by
  unfold slices_ContainsFunc_int_int.idxFrom
  by_cases h : l.any p = true
  · simp [h]
  · have h2 : l.any p = false := by simpa using h
    simp [h2]

set_option maxHeartbeats 1000000 in
theorem slices_ContainsFunc_int_int.index_since (A0 : Option Addr) (c0 : Nat) (l0 : List Int) (w : World) (hr0 : Kd.C (Kd.int .i64) w A0 l0.length l0) (hc0 : l0.length ≤ c0) :
    Calls Try.prog 83 #[.slice A0 l0.length c0, .func (.func 64) #[] #[]] w fun e w' => e = .returned (.int .i64 (slices_ContainsFunc_int_int.idxFrom slices_ContainsFunc_int_int.bad l0)) ∧ Drawn0 w w' := by
  have hl : l0.length ≤ 9223372036854775807 := hr0.2.1
  have HR0 := Aside0.mk hr0
  clear hr0
  go_enter Try.func83, Try.ntmps83
  go_wp2
  go_loopg [5, 8] l0.length (fun kq v5 v8 w' => ∃ x : Int, v8 = .int .i64 x ∧ Aside0 (0 ≤ x ∧ x ≤ l0.length ∧ ∀ j (h : j < l0.length), (j : Int) < x → slices_ContainsFunc_int_int.bad l0[j] = false) ∧ Aside0 (kq = l0.length - x.toNat) ∧ Drawn0 w w')
  case atStart => exact ⟨0, rfl, ⟨by omega, by omega, fun _ _ h => by omega⟩, ⟨rfl⟩, Drawn0.refl _⟩
  case round =>
    obtain ⟨x, rfl, HI, HK, ⟨n, rfl⟩⟩ := hrel
    by_cases hlt : x < (l0.length : Int)
    · have h1 : decide (x < (l0.length : Int)) = true := decide_eq_true hlt
      have p1 : 0 ≤ x := HI.out.1
      obtain ⟨ad, e1, hx⟩ := Kd.at_int HR0.out x p1 hlt
      cases e1
      have HX := Aside0.mk (And.intro p1 hlt)
      replace p1 := eq_true p1
      replace hlt := eq_true hlt
      by_cases hp : slices_ContainsFunc_int_int.bad (rd l0 x) = true
      · go_wp2_with (go_at_call 64; refine (slices_ContainsFunc_int_int.clos_since _ _).mono ?_; rintro e w' ⟨rfl, ⟨n, rfl⟩⟩)
        go_ret
        obtain ⟨h2, h3⟩ := slices_ContainsFunc_int_int.rd_get l0 x HX.out.1 HX.out.2
        rw [h3] at hp
        refine ⟨?_, by repeat (first | exact Drawn0.refl _ | apply Drawn0.step)⟩
        rw [slices_ContainsFunc_int_int.idxFrom_at h2 hp (fun j hj hl => HI.out.2.2 j hj (by omega)), Int.toNat_of_nonneg HX.out.1]; rfl
      · replace hp := Bool.eq_false_iff.mpr hp
        go_wp2_with (go_at_call 64; refine (slices_ContainsFunc_int_int.clos_since _ _).mono ?_; rintro e w' ⟨rfl, ⟨n, rfl⟩⟩)
        go_roundg (l0.length - (x + 1).toNat)
        case measure => have := HX.out; have := HK.out; omega
        case rel =>
          obtain ⟨h2, h3⟩ := slices_ContainsFunc_int_int.rd_get l0 x HX.out.1 HX.out.2
          have hw : wrap64 (x + 1) = x + 1 := by unfold wrap64; have := HX.out; omega
          refine ⟨x + 1, by first | rfl | rw [hw], ⟨by have := HX.out; omega, by have := HX.out; omega, fun j hj hl => ?_⟩, ⟨rfl⟩, by repeat (first | exact Drawn0.refl _ | apply Drawn0.step)⟩
          by_cases hjx : (j : Int) < x
          · exact HI.out.2.2 j hj hjx
          · have : j = x.toNat := by omega
            subst this
            rw [← h3]; exact hp
    · have h1 : decide (x < (l0.length : Int)) = false := decide_eq_false hlt
      go_wp2
      go_ret
      refine ⟨?_, by repeat (first | exact Drawn0.refl _ | apply Drawn0.step)⟩
      rw [slices_ContainsFunc_int_int.idxFrom_none (fun j hj hl => HI.out.2.2 j hj (by omega))]; rfl

theorem slices_ContainsFunc_int_int.contains_since (A0 : Option Addr) (c0 : Nat) (l0 : List Int) (w : World) (hr0 : Kd.C (Kd.int .i64) w A0 l0.length l0) (hc0 : l0.length ≤ c0) :
    Calls Try.prog 59 #[.slice A0 l0.length c0, .func (.func 64) #[] #[]] w fun e w' => e = .returned (.bool (l0.any slices_ContainsFunc_int_int.bad)) ∧ Drawn0 w w' := by
  have HR0 := Aside0.mk hr0
  clear hr0
  have hz := Aside0.mk (slices_ContainsFunc_int_int.idx_ge slices_ContainsFunc_int_int.bad l0)
  go_enter Try.func59, Try.ntmps59
  go_wp2_with (go_at_call 83; refine (slices_ContainsFunc_int_int.index_since _ _ l0 _ HR0.out hc0).mono ?_; rintro e w' ⟨rfl, ⟨n, rfl⟩⟩)
  go_ret
  exact ⟨by rw [← hz.out]; rfl, by repeat (first | exact Drawn0.refl _ | apply Drawn0.step)⟩

def slices_ContainsFunc_int_int.f (l0 : List Int) (a1 : Nat) : Option Bool := if a1 = 64 then some (l0.any slices_ContainsFunc_int_int.bad) else none
theorem slices_ContainsFunc_int_int.calls (A0 : Option Addr) (c0 : Nat) (l0 : List Int) (a1 : Nat) (r : Bool) (w : World) (hr0 : Kd.C (Kd.int .i64) w A0 l0.length l0) (hc0 : l0.length ≤ c0) (h : slices_ContainsFunc_int_int.f l0 a1 = some r) :
    Calls Try.prog 59 #[.slice A0 l0.length c0, .func (.func a1) #[] #[]] w fun e w' => e = .returned (.bool r) ∧ Drawn0 w w' := by
  unfold slices_ContainsFunc_int_int.f at h
  by_cases ha : a1 = 64
  · rw [if_pos ha] at h
    subst ha
    obtain rfl := Option.some.inj h
    exact slices_ContainsFunc_int_int.contains_since A0 c0 l0 w hr0 hc0
  · rw [if_neg ha] at h; cases h

/-! ### slices_Clone_int_int: function 65 -/
def slices_Clone_int_int.f (l0 : List Int) : Option (List Int) := if l0.length * 8 ≤ 140737488351232 then some l0 else none
theorem slices_Clone_int_int.calls (A0 : Option Addr) (c0 : Nat) (l0 : List Int) (r : List Int) (w : World) (hr0 : Kd.C (Kd.int .i64) w A0 l0.length l0) (hc0 : l0.length ≤ c0) (h : slices_Clone_int_int.f l0 = some r) :
    Calls Try.prog 65 #[.slice A0 l0.length c0] w fun e w' => ∃ v0_ : Value, e = .returned (v0_) ∧ Kd.R (Kd.int .i64) 3 w' w.heap.size (fun _ => True) v0_ r ∧ Below w.heap.size w w' := by
  unfold slices_Clone_int_int.f at h
  by_cases hl : ¬ l0.length * 8 ≤ 140737488351232
  · rw [if_neg hl] at h; cases h
  replace hl := Decidable.not_not.1 hl
  rw [if_pos hl] at h
  obtain rfl := Option.some.inj h
  cases l0 with
  | nil =>
    cases A0 with
    | none =>
      refine (Try.slices_Clone_int_nil 0 c0 w).mono ?_
      rintro e w' ⟨rfl, rfl⟩
      exact ⟨_, rfl, Kd.R_nil _ _ _ _ _, Below.refl _ _⟩
    | some a =>
      refine (Try.slices_Clone_int_zero a c0 w).mono ?_
      rintro e w' ⟨v', rfl, ho, _, hb⟩
      exact ⟨v', rfl, Kd.R_of_own (enc := Value.int .i64) (h1 := fun _ => rfl) ho (fun _ _ => trivial), hb⟩
  | cons x l =>
    have hcell : ∀ j, j < (x :: l).length → ∃ ad, A0 = some ad ∧ w.cell? (ad.add j) = some (.int .i64 ((x :: l).getD j 0)) := by
      intro j hj
      obtain ⟨ad, e1, hx⟩ := Kd.at_int hr0 (j : Int) (by omega) (by omega)
      refine ⟨ad, e1, ?_⟩
      rw [Int.toNat_natCast] at hx
      rw [hx]; simp [rd]
    obtain ⟨ad, rfl, h0⟩ := hcell 0 (by simp)
    have hsp : ad.spot = none := by
      have e : ad.add 0 = ad := by simp [Addr.add]
      rw [e] at h0
      unfold World.cell? at h0
      split at h0
      · split at h0
        · cases h0
        · rename_i hs; simpa using hs
      · cases h0
    obtain ⟨b, off, sp⟩ := ad
    simp only at hsp
    subst hsp
    refine (Try.slices_Clone_int b off (x :: l).length c0 (x :: l) w (Nat.le_refl _) (by omega) (fun j hj => ?_)).mono ?_
    · obtain ⟨ad, e1, hx⟩ := hcell j hj
      cases e1
      have e : (⟨b, off, none⟩ : Addr).add j = ⟨b, off + j, none⟩ := by unfold Addr.add; split <;> simp_all
      rw [e] at hx
      exact hx
    · rintro e w' ⟨v', rfl, ho, _, hb⟩
      rw [List.take_of_length_le (Nat.le_refl _)] at ho
      exact ⟨v', rfl, Kd.R_of_own (enc := Value.int .i64) (h1 := fun _ => rfl) ho (fun _ _ => trivial), hb⟩

end Go.Proofs.Ytpdcpekjafcohaa.XWear
