-- Written by wip/pack.py of this repo: texts of this claim, put together.
import Derived.DataReads
import Derived.OpenShut
import Derived.ChangeArms
import Derived.Test.YtoilhnmdemnknaaDoorRows
import Derived.ProofKit
import Derived.LaidMore
import Derived.Stop.Joined
import Derived.Test.YtoilhnmdemnknaaDoorTie
import Derived.Test.YtoilhnmdemnknaaDoorCards
import Derived.SevenTiedAt
import Derived.WalkKit
import Derived.ShutString
import Derived.ChangeOld
import Derived.Below
import Derived.SizedLaws
import Derived.Test.YtoilhnmdemnknaaDoorKFeedIsolatese
/- The sections to which one comes over closed switches, as the program reckons them. -/
namespace Go.Proofs.YtoilhnmdemnknaaDoor.Plain
set_option linter.unusedVariables false
set_option linter.unusedSimpArgs false
open Go.RowKit Go.Proofs.YtoilhnmdemnknaaDoor.XFeed Go.Proofs.YtoilhnmdemnknaaDoorW.PrintWords Go.Proofs.YtoilhnmdemnknaaDoorW.PrintLast Go.Proofs.YtoilhnmdemnknaaDoorW.PrintMore

theorem ev_const {α : Type} {o : Option α} {r : α} (h : o = some r) : Ev (fun _ => o) r := ⟨0, fun _ _ => h⟩
theorem ev_pos {α : Type} {c : Prop} [Decidable c] {a b : Nat → Option α} {r : α} (hc : c) (h : Ev a r) : Ev (fun k => if c then a k else b k) r :=
  Ev.congr (fun k => if_pos hc) h
theorem ev_neg {α : Type} {c : Prop} [Decidable c] {a b : Nat → Option α} {r : α} (hc : ¬ c) (h : Ev b r) : Ev (fun k => if c then a k else b k) r :=
  Ev.congr (fun k => if_neg hc) h
theorem ev_some {α β : Type} {a : α} {f : Nat → α → Option β} {r : β} (h : Ev (fun k => f k a) r) : Ev (fun k => (some a).bind (f k)) r := h
theorem wrap_id {x : Int} (h0 : -9223372036854775808 ≤ x) (h1 : x ≤ 9223372036854775807) : wrap64 x = x := by unfold wrap64; omega
theorem wrap_succ (n : Nat) (h : n ≤ 4000000000000000000) : wrap64 ((n : Int) + 1) = ((n + 1 : Nat) : Int) := by rw [wrap_id] <;> omega

/-- switches between sections below n -/
def SwOk (n : Nat) (sw : List S69) : Prop := ∀ s ∈ sw, 0 ≤ s.f0 ∧ s.f0 < n ∧ 0 ≤ s.f1 ∧ s.f1 < n ∧ s.f0 ≠ s.f1
/-- one closed switch between two sections -/
def Edge (sw : List S69) (st a b : Nat) : Prop := ∃ i, ∃ h : i < sw.length, st.testBit i = true ∧ ((sw[i].f0 = a ∧ sw[i].f1 = b) ∨ (sw[i].f0 = b ∧ sw[i].f1 = a))
inductive Conn (sw : List S69) (st : Nat) (a : Nat) : Nat → Prop
  | refl : Conn sw st a a
  | step {b c : Nat} : Conn sw st a b → Edge sw st b c → Conn sw st a c
theorem rd_S69 (xs : List S69) (i : Nat) (h : i < xs.length) : rd_T69 xs (i : Int) = xs[i] := by simp [rd_T69, List.getD_eq_getElem?_getD, h]

def two (a b : Nat) : Nat := 1 <<< a ||| 1 <<< b
theorem two_bit (a b j : Nat) : (two a b).testBit j = (decide (j = a) || decide (j = b)) := by
  simp only [two, Nat.testBit_or, Nat.one_shiftLeft, Nat.testBit_two_pow]
  rw [show decide (a = j) = decide (j = a) from decide_eq_decide.2 eq_comm, show decide (b = j) = decide (j = b) from decide_eq_decide.2 eq_comm]
theorem two_lt {a b : Nat} (ha : a < 8) (hb : b < 8) : two a b < 256 := by
  have h1 : 1 <<< a < 2 ^ 8 := by rw [Nat.one_shiftLeft]; exact Nat.pow_lt_pow_right (by decide) ha
  have h2 : 1 <<< b < 2 ^ 8 := by rw [Nat.one_shiftLeft]; exact Nat.pow_lt_pow_right (by decide) hb
  exact Nat.or_lt_two_pow h1 h2
theorem and_two_zero {m a b : Nat} : m &&& two a b = 0 ↔ m.testBit a = false ∧ m.testBit b = false := by
  constructor
  · intro h
    have h2 := fun j => congrArg (fun x => x.testBit j) h
    simp only [Nat.testBit_and, two_bit, Nat.zero_testBit] at h2
    exact ⟨by simpa using h2 a, by simpa using h2 b⟩
  · rintro ⟨h1, h2⟩
    apply Nat.eq_of_testBit_eq
    intro j
    simp only [Nat.testBit_and, two_bit, Nat.zero_testBit]
    by_cases ha : j = a
    · subst ha; simp [h1]
    · by_cases hb : j = b
      · subst hb; simp [h2]
      · simp [ha, hb]
theorem and_two_all {m a b : Nat} : m &&& two a b = two a b ↔ m.testBit a = true ∧ m.testBit b = true := by
  constructor
  · intro h
    have h2 := fun j => congrArg (fun x => x.testBit j) h
    simp only [Nat.testBit_and, two_bit] at h2
    exact ⟨by simpa using h2 a, by simpa using h2 b⟩
  · rintro ⟨h1, h2⟩
    apply Nat.eq_of_testBit_eq
    intro j
    simp only [Nat.testBit_and, two_bit]
    by_cases ha : j = a
    · subst ha; simp [h1]
    · by_cases hb : j = b
      · subst hb; simp [h2]
      · simp [ha, hb]
/-- a mask that holds the sections that are come to, and only such -/
def Sound (sw : List S69) (st a m : Nat) : Prop := m < 256 ∧ m.testBit a = true ∧ ∀ j, m.testBit j = true → Conn sw st a j
def Even (sw : List S69) (st m i : Nat) : Prop := ∀ j, ∀ h : j < sw.length, j < i → st.testBit j = true → m.testBit (sw[j].f0).toNat = m.testBit (sw[j].f1).toNat
theorem conn_of_even {sw : List S69} {st a m : Nat} (hs : Sound sw st a m) (he : Even sw st m sw.length) {j : Nat} (h : Conn sw st a j) : m.testBit j = true := by
  induction h with
  | refl => exact hs.2.1
  | step _ e ih =>
    obtain ⟨i, hi, hb, h | h⟩ := e
    · have := he i hi hi hb
      rw [h.1, h.2, Int.toNat_natCast, Int.toNat_natCast] at this
      rw [← this]; exact ih
    · have := he i hi hi hb
      rw [h.1, h.2, Int.toNat_natCast, Int.toNat_natCast] at this
      rw [this]; exact ih
theorem or_two_sound {sw : List S69} {st a m : Nat} (hs : Sound sw st a m) {i : Nat} (hi : i < sw.length) (hb : st.testBit i = true) {x y : Nat} (hx : sw[i].f0 = x) (hy : sw[i].f1 = y) (hx8 : x < 8) (hy8 : y < 8)
    (h : m.testBit x = true ∨ m.testBit y = true) : Sound sw st a (m ||| two x y) := by
  have hlt8 : m ||| two x y < 2 ^ 8 := Nat.or_lt_two_pow hs.1 (two_lt hx8 hy8)
  refine ⟨hlt8, by rw [Nat.testBit_or, hs.2.1]; rfl, fun j hj => ?_⟩
  rw [Nat.testBit_or, two_bit] at hj
  have e1 : Edge sw st x y := ⟨i, hi, hb, .inl ⟨hx, hy⟩⟩
  have e2 : Edge sw st y x := ⟨i, hi, hb, .inr ⟨hx, hy⟩⟩
  by_cases hm : m.testBit j = true
  · exact hs.2.2 j hm
  · have hm2 : m.testBit j = false := by simpa using hm
    rw [hm2, Bool.false_or] at hj
    have hj2 : j = x ∨ j = y := by simpa using hj
    rcases hj2 with rfl | rfl
    · rcases h with h | h
      · exact hs.2.2 _ h
      · exact Conn.step (hs.2.2 _ h) e2
    · rcases h with h | h
      · exact Conn.step (hs.2.2 _ h) e1
      · exact hs.2.2 _ h
theorem or_gt {m t : Nat} (h : m &&& t ≠ t) : m < m ||| t := by
  refine Nat.lt_of_le_of_ne Nat.left_le_or (fun e => h ?_)
  have : (m ||| t) &&& t = t := by
    apply Nat.eq_of_testBit_eq
    intro j
    rw [Nat.testBit_and, Nat.testBit_or]
    cases m.testBit j <;> cases t.testBit j <;> rfl
  rw [← e] at this
  exact this
/-- what the program's groups are -/
def Group (sw : List S69) (st a m : Nat) : Prop := Sound sw st a m ∧ Even sw st m sw.length
theorem group_l1 (n : Int) (sw : List S69) (fe : List S71) (hsw : SwOk 8 sw) (hlen : sw.length ≤ 20) (st a : Nat) (hst : st < 2 ^ 20) (m0 : Nat)
    (IH : ∀ m, m0 < m → Sound sw st a m → ∃ r, Ev (fun k => feed_grid_group.l0 k (st : Int) (m : Int) true n sw fe) ((r : Nat) : Int) ∧ Group sw st a r) :
    ∀ (d i m : Nat) (b : Bool), i + d = sw.length → Sound sw st a m → (b = false → m = m0 ∧ Even sw st m0 i) → (b = true → m0 < m) →
    ∃ r, Ev (fun k => feed_grid_group.l1 k (st : Int) (m : Int) b sw (sw.length : Int) (i : Int) n sw fe) ((r : Nat) : Int) ∧ Group sw st a r := by
  intro d
  induction d with
  | zero =>
    intro i m b hi hs hf ht
    obtain rfl : i = sw.length := by omega
    cases b with
    | true =>
      obtain ⟨r, h1, h2⟩ := IH m (ht rfl) hs
      refine ⟨r, ?_, h2⟩
      refine Ev.step (fun k => by rw [feed_grid_group.l1]) ?_
      exact ev_neg (by omega) h1
    | false =>
      obtain ⟨rfl, he⟩ := hf rfl
      refine ⟨m, ?_, hs, he⟩
      refine Ev.step (fun k => by rw [feed_grid_group.l1]) (ev_neg (by omega) ?_)
      refine Ev.step (fun k => by rw [feed_grid_group.l0]) ?_
      exact ev_neg (by simp) (Ev.now _)
  | succ d ih =>
    intro i m b hi hs hf ht
    have hlt : i < sw.length := by omega
    have hm := hs.1
    obtain ⟨x0, x1, y0, y1, hxy⟩ := hsw sw[i] (List.getElem_mem hlt)
    obtain ⟨x, hx⟩ := Int.eq_ofNat_of_zero_le x0
    obtain ⟨y, hy⟩ := Int.eq_ofNat_of_zero_le y0
    have hx8 : x < 8 := by omega
    have hy8 : y < 8 := by omega
    have ht2 := two_lt hx8 hy8
    have start : ∀ r : Nat, Ev (fun k => if (Go.bits .and .i64 (shr .i64 (st : Int) (i : Int)) 1) = 0 then feed_grid_group.l1 k (st : Int) (m : Int) b sw (sw.length : Int) (wrap64 ((i : Int) + 1)) n sw fe else (if 0 ≤ ((rd_T69 sw (i : Int)).f0) then (if 0 ≤ ((rd_T69 sw (i : Int)).f1) then (if (Go.bits .and .u64 (m : Int) (Go.bits .or .u64 (shl .u64 1 ((rd_T69 sw (i : Int)).f0)) (shl .u64 1 ((rd_T69 sw (i : Int)).f1)))) = 0 then (feed_grid_group.l1 k (st : Int) (m : Int) b sw (sw.length : Int) (wrap64 ((i : Int) + 1)) n sw fe) else (if (Go.bits .and .u64 (m : Int) (Go.bits .or .u64 (shl .u64 1 ((rd_T69 sw (i : Int)).f0)) (shl .u64 1 ((rd_T69 sw (i : Int)).f1)))) = (Go.bits .or .u64 (shl .u64 1 ((rd_T69 sw (i : Int)).f0)) (shl .u64 1 ((rd_T69 sw (i : Int)).f1))) then (feed_grid_group.l1 k (st : Int) (m : Int) b sw (sw.length : Int) (wrap64 ((i : Int) + 1)) n sw fe) else (feed_grid_group.l1 k (st : Int) (Go.bits .or .u64 (m : Int) (Go.bits .or .u64 (shl .u64 1 ((rd_T69 sw (i : Int)).f0)) (shl .u64 1 ((rd_T69 sw (i : Int)).f1)))) true sw (sw.length : Int) (wrap64 ((i : Int) + 1)) n sw fe))) else (none)) else (none))) (r : Int) →
        Ev (fun k => feed_grid_group.l1 k (st : Int) (m : Int) b sw (sw.length : Int) (i : Int) n sw fe) (r : Int) := by
      intro r h
      refine Ev.step (fun k => by rw [feed_grid_group.l1]) ?_
      exact ev_pos (by omega) (ev_pos (by omega) (ev_pos (by omega) h))
    rw [rd_S69 sw i hlt, hx, hy] at start
    have e1 : shl .u64 1 ((x : Nat) : Int) = ((1 <<< x : Nat) : Int) := shl_u (x := 1) (by rw [Nat.one_mul]; exact Nat.lt_of_lt_of_le (Nat.pow_lt_pow_right (by decide) hx8) (by decide)) (by omega)
    have e2 : shl .u64 1 ((y : Nat) : Int) = ((1 <<< y : Nat) : Int) := shl_u (x := 1) (by rw [Nat.one_mul]; exact Nat.lt_of_lt_of_le (Nat.pow_lt_pow_right (by decide) hy8) (by decide)) (by omega)
    have s1 : 1 <<< x < 2 ^ 62 := by rw [Nat.one_shiftLeft]; exact Nat.lt_of_lt_of_le (Nat.pow_lt_pow_right (by decide) hx8) (by decide)
    have s2 : 1 <<< y < 2 ^ 62 := by rw [Nat.one_shiftLeft]; exact Nat.lt_of_lt_of_le (Nat.pow_lt_pow_right (by decide) hy8) (by decide)
    have e3 : Go.bits .or .u64 ((1 <<< x : Nat) : Int) ((1 <<< y : Nat) : Int) = ((two x y : Nat) : Int) := or_u s1 s2
    have e4 : Go.bits .and .u64 (m : Int) ((two x y : Nat) : Int) = ((m &&& two x y : Nat) : Int) := and_u (by omega) (by omega)
    have e5 : Go.bits .or .u64 (m : Int) ((two x y : Nat) : Int) = ((m ||| two x y : Nat) : Int) := or_u (by omega) (by omega)
    rw [e1, e2, e3, e4, e5, bit_i (by omega) (by omega), wrap_succ i (by omega)] at start
    have keep : ∀ (hE : st.testBit i = true → m.testBit x = m.testBit y), b = false → m = m0 ∧ Even sw st m0 (i + 1) := by
      intro hE hb
      obtain ⟨rfl, he⟩ := hf hb
      refine ⟨rfl, fun j hj hji hjb => ?_⟩
      by_cases h : j < i
      · exact he j hj h hjb
      · obtain rfl : j = i := by omega
        rw [hx, hy, Int.toNat_natCast, Int.toNat_natCast]
        exact hE hjb
    by_cases hbit : st.testBit i = true
    · rw [if_pos hbit] at start
      by_cases hz : m &&& two x y = 0
      · have hz2 := and_two_zero.1 hz
        obtain ⟨r, h1, h2⟩ := ih (i + 1) m b (by omega) hs (keep fun _ => by rw [hz2.1, hz2.2]) ht
        exact ⟨r, start r (ev_neg (by decide) (ev_pos (by omega) (ev_pos (by omega) (ev_pos (by omega) h1)))), h2⟩
      · by_cases ha : m &&& two x y = two x y
        · have ha2 := and_two_all.1 ha
          obtain ⟨r, h1, h2⟩ := ih (i + 1) m b (by omega) hs (keep fun _ => by rw [ha2.1, ha2.2]) ht
          exact ⟨r, start r (ev_neg (by decide) (ev_pos (by omega) (ev_pos (by omega) (ev_neg (by omega) (ev_pos (by omega) h1))))), h2⟩
        · have hor : m.testBit x = true ∨ m.testBit y = true := by
            by_cases h1 : m.testBit x = true
            · exact .inl h1
            · by_cases h2 : m.testBit y = true
              · exact .inr h2
              · exact absurd (and_two_zero.2 ⟨by simpa using h1, by simpa using h2⟩) hz
          have hgt := or_gt ha
          have hm0 : m0 < m ||| two x y := by
            cases b with
            | true => have := ht rfl; omega
            | false => have := (hf rfl).1; omega
          obtain ⟨r, h1, h2⟩ := ih (i + 1) (m ||| two x y) true (by omega) (or_two_sound hs hlt hbit hx hy hx8 hy8 hor) (fun h => by cases h) (fun _ => hm0)
          exact ⟨r, start r (ev_neg (by decide) (ev_pos (by omega) (ev_pos (by omega) (ev_neg (by omega) (ev_neg (by omega) h1))))), h2⟩
    · rw [if_neg hbit] at start
      obtain ⟨r, h1, h2⟩ := ih (i + 1) m b (by omega) hs (keep fun h => absurd h hbit) ht
      exact ⟨r, start r (ev_pos rfl h1), h2⟩
theorem group_l0 (n : Int) (sw : List S69) (fe : List S71) (hsw : SwOk 8 sw) (hlen : sw.length ≤ 20) (st a : Nat) (hst : st < 2 ^ 20) :
    ∀ (q m : Nat), 256 - m ≤ q → Sound sw st a m → ∃ r, Ev (fun k => feed_grid_group.l0 k (st : Int) (m : Int) true n sw fe) ((r : Nat) : Int) ∧ Group sw st a r := by
  intro q
  induction q with
  | zero => intro m hq hs; have := hs.1; omega
  | succ q ih =>
    intro m hq hs
    have hm := hs.1
    obtain ⟨r, h1, h2⟩ := group_l1 n sw fe hsw hlen st a hst m (fun m' hm' hs' => ih m' (by omega) hs') sw.length 0 m false (by omega) hs (fun _ => ⟨rfl, fun j hj hji => by omega⟩) (fun h => by cases h)
    refine ⟨r, ?_, h2⟩
    refine Ev.step (fun k => by rw [feed_grid_group.l0]) ?_
    exact ev_pos rfl h1
theorem group_ev (n : Int) (sw : List S69) (fe : List S71) (hsw : SwOk 8 sw) (hlen : sw.length ≤ 20) (st a : Nat) (hst : st < 2 ^ 20) (ha : a < 8) :
    ∃ r : Nat, Ev (fun k => feed_grid_group.f k n sw fe (st : Int) (a : Int)) ((r : Nat) : Int) ∧ r < 256 ∧ ∀ j, r.testBit j = true ↔ Conn sw st a j := by
  have e1 : shl .u64 1 ((a : Nat) : Int) = ((1 <<< a : Nat) : Int) := shl_u (x := 1) (by rw [Nat.one_mul]; exact Nat.lt_of_lt_of_le (Nat.pow_lt_pow_right (by decide) ha) (by decide)) (by omega)
  have hs : Sound sw st a (1 <<< a) := by
    refine ⟨by rw [Nat.one_shiftLeft]; exact Nat.lt_of_lt_of_le (Nat.pow_lt_pow_right (by decide) ha) (by decide), by rw [Nat.one_shiftLeft, Nat.testBit_two_pow]; simp, fun j hj => ?_⟩
    rw [Nat.one_shiftLeft, Nat.testBit_two_pow] at hj
    obtain rfl : a = j := by simpa using hj
    exact Conn.refl
  obtain ⟨r, h1, h2⟩ := group_l0 n sw fe hsw hlen st a hst 256 (1 <<< a) (Nat.sub_le _ _) hs
  refine ⟨r, ?_, h2.1.1, fun j => ⟨h2.1.2.2 j, fun h => conn_of_even h2.1 h2.2 h⟩⟩
  unfold feed_grid_group.f
  rw [e1]
  exact ev_pos (by omega) h1
end Go.Proofs.YtoilhnmdemnknaaDoor.Plain

/- With which phases the sections are fed, as the program reckons them. -/
namespace Go.Proofs.YtoilhnmdemnknaaDoor.Plain
set_option linter.unusedVariables false
set_option linter.unusedSimpArgs false
open Go.RowKit Go.Proofs.YtoilhnmdemnknaaDoor.XFeed Go.Proofs.YtoilhnmdemnknaaDoorW.PrintWords Go.Proofs.YtoilhnmdemnknaaDoorW.PrintLast Go.Proofs.YtoilhnmdemnknaaDoorW.PrintMore

def FeOk (n : Nat) (fe : List S71) : Prop := ∀ f ∈ fe, 0 ≤ f.f0 ∧ f.f0 < n ∧ 1 ≤ f.f1 ∧ f.f1 ≤ 3
/-- the phases of a section -/
def Mask (sw : List S69) (st : Nat) (fs : List S71) (i m : Nat) : Prop :=
  m < 16 ∧ ∀ p, m.testBit p = true ↔ ∃ f ∈ fs, f.f1 = (p : Int) ∧ Conn sw st f.f0.toNat i
theorem rd_S71 (xs : List S71) (i : Nat) (h : i < xs.length) : rd_T71 xs (i : Int) = xs[i] := by simp [rd_T71, List.getD_eq_getElem?_getD, h]
theorem rd_set (l : List Int) (i j : Nat) (v : Int) (hi : i < l.length) : rd (l.set i v) (j : Int) = if j = i then v else rd l (j : Int) := by
  simp only [rd, Int.toNat_natCast, List.getD_eq_getElem?_getD, List.getElem?_set]
  by_cases h : i = j
  · subst h; simp [hi]
  · rw [if_neg h, if_neg (fun e => h e.symm)]
theorem mask_no {sw : List S69} {st : Nat} {fs : List S71} {f : S71} {i m : Nat} (h : Mask sw st fs i m) (hn : ¬ Conn sw st f.f0.toNat i) : Mask sw st (fs ++ [f]) i m := by
  refine ⟨h.1, fun p => ?_⟩
  rw [h.2 p]
  constructor
  · rintro ⟨x, hx, h1, h2⟩; exact ⟨x, List.mem_append_left _ hx, h1, h2⟩
  · rintro ⟨x, hx, h1, h2⟩
    rcases List.mem_append.1 hx with hx | hx
    · exact ⟨x, hx, h1, h2⟩
    · obtain rfl : x = f := by simpa using hx
      exact absurd h2 hn
theorem mask_yes {sw : List S69} {st : Nat} {fs : List S71} {f : S71} {i m q : Nat} (h : Mask sw st fs i m) (hc : Conn sw st f.f0.toNat i) (hq : f.f1 = (q : Int)) (hq4 : q < 4) : Mask sw st (fs ++ [f]) i (m ||| 1 <<< q) := by
  have hlt : m ||| 1 <<< q < 2 ^ 4 := Nat.or_lt_two_pow h.1 (by rw [Nat.one_shiftLeft]; exact Nat.pow_lt_pow_right (by decide) hq4)
  refine ⟨hlt, fun p => ?_⟩
  rw [Nat.testBit_or, Bool.or_eq_true, h.2 p, Nat.one_shiftLeft, Nat.testBit_two_pow, decide_eq_true_eq]
  constructor
  · rintro (⟨x, hx, h1, h2⟩ | rfl)
    · exact ⟨x, List.mem_append_left _ hx, h1, h2⟩
    · exact ⟨f, by simp, hq, hc⟩
  · rintro ⟨x, hx, h1, h2⟩
    rcases List.mem_append.1 hx with hx | hx
    · exact .inl ⟨x, hx, h1, h2⟩
    · obtain rfl : x = f := by simpa using hx
      right; omega
def Fed (sw : List S69) (st n : Nat) (fs : List S71) (l : List Int) : Prop := l.length = n ∧ ∀ i, i < n → ∃ m, rd l (i : Int) = ((m : Nat) : Int) ∧ Mask sw st fs i m
theorem fed_l1 (n : Nat) (hn : n ≤ 8) (sw : List S69) (fe : List S71) (st : Nat) (f : S71) (hf : 1 ≤ f.f1 ∧ f.f1 ≤ 3) (fs : List S71) (q : Nat) (g : Nat) (hg : g < 256) (hgc : ∀ j, g.testBit j = true ↔ Conn sw st f.f0.toNat j)
    (hend : ∀ l', Fed sw st n (fs ++ [f]) l' → ∃ r, Ev (fun k => feed_grid_fed.l0 k (st : Int) l' fe (fe.length : Int) (wrap64 ((q : Int) + 1)) (n : Int) sw fe) r ∧ Fed sw st n fe r) :
    ∀ (d i : Nat) (l : List Int), i + d = n → l.length = n → (∀ j, j < n → ∃ m, rd l (j : Int) = ((m : Nat) : Int) ∧ Mask sw st (if j < i then fs ++ [f] else fs) j m) →
    ∃ r, Ev (fun k => feed_grid_fed.l1 k (st : Int) l (g : Int) fe (fe.length : Int) (q : Int) (n : Int) (i : Int) (n : Int) sw fe f.f0 f.f1) r ∧ Fed sw st n fe r := by
  intro d
  induction d with
  | zero =>
    intro i l hi hl hm
    obtain rfl : i = n := by omega
    obtain ⟨r, h1, h2⟩ := hend l ⟨hl, fun j hj => by
      obtain ⟨m, e, h⟩ := hm j hj
      rw [if_pos hj] at h
      exact ⟨m, e, h⟩⟩
    refine ⟨r, ?_, h2⟩
    refine Ev.step (fun k => by rw [feed_grid_fed.l1]) ?_
    exact ev_neg (by omega) h1
  | succ d ih =>
    intro i l hi hl hm
    obtain ⟨m, e, h⟩ := hm i (by omega)
    rw [if_neg (by omega)] at h
    have hm16 := h.1
    have hb := bit_u (x := g) (i := i) (by omega) (by omega)
    by_cases hc : g.testBit i = true
    · have hcc := (hgc i).1 hc
      rw [if_pos hc] at hb
      obtain ⟨p, hp⟩ := Int.eq_ofNat_of_zero_le (show 0 ≤ f.f1 by omega)
      have s1 : 1 <<< p < 2 ^ 62 := by rw [Nat.one_shiftLeft]; exact Nat.lt_of_lt_of_le (Nat.pow_lt_pow_right (by decide) (show p < 4 by omega)) (by decide)
      have e1 : shl .u64 1 ((p : Nat) : Int) = ((1 <<< p : Nat) : Int) := shl_u (x := 1) (by rw [Nat.one_mul]; exact Nat.lt_of_lt_of_le (Nat.pow_lt_pow_right (by decide) (show p < 4 by omega)) (by decide)) (by omega)
      have e2 : Go.bits .or .u64 (m : Int) ((1 <<< p : Nat) : Int) = ((m ||| 1 <<< p : Nat) : Int) := or_u (by omega) s1
      obtain ⟨r, h1, h2⟩ := ih (i + 1) (l.set i ((m ||| 1 <<< p : Nat) : Int)) (by omega) (by rw [List.length_set]; exact hl) (fun j hj => by
        rw [rd_set _ _ _ _ (by omega)]
        by_cases hji : j = i
        · subst hji
          rw [if_pos rfl, if_pos (by omega)]
          exact ⟨_, rfl, mask_yes h hcc hp (by omega)⟩
        · rw [if_neg hji]
          obtain ⟨m', e', h'⟩ := hm j hj
          refine ⟨m', e', ?_⟩
          by_cases hlt : j < i
          · rw [if_pos hlt] at h'; rw [if_pos (by omega)]; exact h'
          · rw [if_neg hlt] at h'; rw [if_neg (by omega)]; exact h')
      refine ⟨r, ?_, h2⟩
      refine Ev.step (fun k => by rw [feed_grid_fed.l1]) ?_
      rw [hb, e, hp, e1, e2, wrap_succ i (by omega), Int.toNat_natCast]
      rw [hp] at h1
      exact ev_pos (by omega) (ev_pos (by omega) (ev_pos rfl (ev_pos (by omega) (ev_pos (by omega) h1))))
    · rw [if_neg hc] at hb
      obtain ⟨r, h1, h2⟩ := ih (i + 1) l (by omega) hl (fun j hj => by
        obtain ⟨m', e', h'⟩ := hm j hj
        refine ⟨m', e', ?_⟩
        by_cases hji : j = i
        · subst hji
          rw [if_neg (by omega)] at h'
          rw [if_pos (by omega)]
          exact mask_no h' (fun hx => hc ((hgc j).2 hx))
        · by_cases hlt : j < i
          · rw [if_pos hlt] at h'; rw [if_pos (by omega)]; exact h'
          · rw [if_neg hlt] at h'; rw [if_neg (by omega)]; exact h')
      refine ⟨r, ?_, h2⟩
      refine Ev.step (fun k => by rw [feed_grid_fed.l1]) ?_
      rw [hb, wrap_succ i (by omega)]
      exact ev_pos (by omega) (ev_pos (by omega) (ev_neg (by decide) h1))
theorem fed_l0 (n : Nat) (hn : n ≤ 8) (sw : List S69) (hsw : SwOk 8 sw) (hlen : sw.length ≤ 20) (fe : List S71) (hfe : FeOk n fe) (hfl : fe.length ≤ 20) (st : Nat) (hst : st < 2 ^ 20) :
    ∀ (d q : Nat) (l : List Int), q + d = fe.length → Fed sw st n (fe.take q) l → ∃ r, Ev (fun k => feed_grid_fed.l0 k (st : Int) l fe (fe.length : Int) (q : Int) (n : Int) sw fe) r ∧ Fed sw st n fe r := by
  intro d
  induction d with
  | zero =>
    intro q l hq hl
    obtain rfl : q = fe.length := by omega
    rw [List.take_length] at hl
    refine ⟨l, ?_, hl⟩
    refine Ev.step (fun k => by rw [feed_grid_fed.l0]) ?_
    exact ev_neg (by omega) (Ev.now _)
  | succ d ih =>
    intro q l hq hl
    have hlt : q < fe.length := by omega
    obtain ⟨f0, f1, f2, f3⟩ := hfe fe[q] (List.getElem_mem hlt)
    have htk : fe.take (q + 1) = fe.take q ++ [fe[q]] := List.take_succ_eq_append_getElem hlt
    obtain ⟨g, hg1, hg2, hg3⟩ := group_ev (n : Int) sw fe hsw hlen st fe[q].f0.toNat hst (by omega)
    rw [Int.toNat_of_nonneg f0] at hg1
    obtain ⟨r, h1, h2⟩ := fed_l1 n hn sw fe st fe[q] ⟨f2, f3⟩ (fe.take q) q g hg2 hg3 (fun l' hl' => by
      rw [wrap_succ q (by omega)]
      rw [← htk] at hl'
      exact ih (q + 1) l' (by omega) hl') n 0 l (by omega) hl.1 (fun j hj => by rw [if_neg (by omega)]; exact hl.2 j hj)
    refine ⟨r, ?_, h2⟩
    refine Ev.step (fun k => by rw [feed_grid_fed.l0]) ?_
    rw [rd_S71 fe q hlt]
    refine ev_pos (by omega) (ev_pos (by omega) (ev_pos (by omega) (Ev.bind hg1 ?_)))
    rw [hl.1]
    exact h1
theorem fed_ev (n : Nat) (hn : n ≤ 8) (sw : List S69) (hsw : SwOk 8 sw) (hlen : sw.length ≤ 20) (fe : List S71) (hfe : FeOk n fe) (hfl : fe.length ≤ 20) (st : Nat) (hst : st < 2 ^ 20) :
    ∃ r, Ev (fun k => feed_grid_fed.f k (n : Int) sw fe (st : Int)) r ∧ Fed sw st n fe r := by
  obtain ⟨r, h1, h2⟩ := fed_l0 n hn sw hsw hlen fe hfe hfl st hst fe.length 0 (List.replicate n 0) (by omega) ⟨List.length_replicate, fun i hi => ⟨0, by simp [rd, hi], by decide, fun p => by simp⟩⟩
  refine ⟨r, ?_, h2⟩
  unfold feed_grid_fed.f
  rw [Int.toNat_natCast]
  exact ev_pos (by omega) (ev_pos (by omega) h1)
end Go.Proofs.YtoilhnmdemnknaaDoor.Plain

/- Which grids are as described: program and document say the same. -/
namespace Go.Proofs.YtoilhnmdemnknaaDoor.Plain
set_option linter.unusedVariables false
set_option linter.unusedSimpArgs false
open Go.RowKit Go.Proofs.YtoilhnmdemnknaaDoor.XFeed Go.Proofs.YtoilhnmdemnknaaDoorW.PrintWords Go.Proofs.YtoilhnmdemnknaaDoorW.PrintLast Go.Proofs.YtoilhnmdemnknaaDoorW.PrintMore

def SwIs (N : Int) (s : S69) : Prop := 0 ≤ s.f0 ∧ s.f0 < N ∧ 0 ≤ s.f1 ∧ s.f1 < N ∧ s.f0 ≠ s.f1
def FeIs (N : Int) (f : S71) : Prop := 0 ≤ f.f0 ∧ f.f0 < N ∧ 1 ≤ f.f1 ∧ f.f1 ≤ 3
def GridOk (N : Int) (sw : List S69) (fe : List S71) : Prop :=
  1 ≤ N ∧ N ≤ 8 ∧ sw.length ≤ 10 ∧ fe.length ≤ 6 ∧ (∀ s ∈ sw, SwIs N s) ∧ ∀ f ∈ fe, FeIs N f
theorem bad1_iff {N : Int} (h1 : 1 ≤ N) (h2 : N ≤ 8) (s : S69) : feed_Valid.bad1 N s = true ↔ ¬ SwIs N s := by
  unfold feed_Valid.bad1 SwIs
  rw [wrap_id (x := N - 1) (by omega) (by omega)]
  simp only [Bool.or_eq_true, Bool.not_eq_true', Bool.and_eq_false_iff, decide_eq_false_iff_not, beq_iff_eq]
  omega
theorem bad2_iff {N : Int} (h1 : 1 ≤ N) (h2 : N ≤ 8) (f : S71) : feed_Valid.bad2 N f = true ↔ ¬ FeIs N f := by
  unfold feed_Valid.bad2 FeIs
  rw [wrap_id (x := N - 1) (by omega) (by omega)]
  simp only [Bool.or_eq_true, Bool.not_eq_true', Bool.and_eq_false_iff, decide_eq_false_iff_not]
  omega
open Classical in
theorem valid_f (N : Int) (sw : List S69) (fe : List S71) : feed_Valid.f N sw fe = some (decide (GridOk N sw fe)) := by
  unfold feed_Valid.f
  congr 1
  rw [Bool.eq_iff_iff, decide_eq_true_eq]
  simp only [Bool.and_eq_true, decide_eq_true_eq, Bool.not_eq_true', List.any_eq_false]
  unfold GridOk
  constructor
  · rintro ⟨⟨h1, h2⟩, h3, h4, h5, h6⟩
    refine ⟨h1, h2, by omega, by omega, fun s hs => ?_, fun f hf => ?_⟩
    · have := h5 s hs
      rw [bad1_iff h1 h2] at this
      exact Classical.not_not.1 this
    · have := h6 f hf
      rw [bad2_iff h1 h2] at this
      exact Classical.not_not.1 this
  · rintro ⟨h1, h2, h3, h4, h5, h6⟩
    refine ⟨⟨h1, h2⟩, by omega, by omega, fun s hs => ?_, fun f hf => ?_⟩
    · rw [bad1_iff h1 h2]; exact fun h => h (h5 s hs)
    · rw [bad2_iff h1 h2]; exact fun h => h (h6 f hf)
theorem section_f (N : Int) (sw : List S69) (fe : List S71) (x : Int) : dropperref05_section.f N sw fe x = some (decide (0 ≤ x ∧ x < N)) := by
  unfold dropperref05_section.f
  by_cases h : x ≥ 0
  · rw [if_pos h]; congr 1; rw [decide_eq_decide]; omega
  · rw [if_neg h]; congr 1; symm; rw [decide_eq_false_iff_not]; omega
open Classical in
theorem rvalid_l1 (N : Int) (sw : List S69) (fe : List S71) (hl : fe.length ≤ 6) : ∀ (d i : Nat), i + d = fe.length → (∀ j (h : j < fe.length), j < i → FeIs N fe[j]) →
    Ev (fun k => dropperref05_Valid.l1 k (i : Int) N sw fe) (decide (∀ f ∈ fe, FeIs N f)) := by
  intro d
  induction d with
  | zero =>
    intro i hi hb
    refine Ev.step (fun k => by rw [dropperref05_Valid.l1]) ?_
    refine ev_neg (by omega) (ev_const ?_)
    rw [decide_eq_true]
    intro f hf
    obtain ⟨j, hj, rfl⟩ := List.mem_iff_getElem.1 hf
    exact hb j hj (by omega)
  | succ d ih =>
    intro i hi hb
    have hlt : i < fe.length := by omega
    have no : ¬ FeIs N fe[i] → (false : Bool) = decide (∀ f ∈ fe, FeIs N f) := fun h => by
      symm; rw [decide_eq_false_iff_not]; exact fun h2 => h (h2 _ (List.getElem_mem hlt))
    refine Ev.step (fun k => by rw [dropperref05_Valid.l1]) ?_
    rw [rd_S71 fe i hlt, section_f, wrap_succ i (by omega)]
    refine ev_pos (by omega) (ev_pos (by omega) (ev_some ?_))
    by_cases h0 : 0 ≤ fe[i].f0 ∧ fe[i].f0 < N
    · refine ev_pos (decide_eq_true h0) ?_
      by_cases h1 : fe[i].f1 < 1
      · exact ev_pos h1 (ev_const (congrArg some (no (fun h => by unfold FeIs at h; omega))))
      refine ev_neg h1 ?_
      by_cases h2 : fe[i].f1 > 3
      · exact ev_pos h2 (ev_const (congrArg some (no (fun h => by unfold FeIs at h; omega))))
      refine ev_neg h2 (ih (i + 1) (by omega) (fun j hj hji => ?_))
      by_cases h : j < i
      · exact hb j hj h
      · obtain rfl : j = i := by omega
        unfold FeIs; omega
    · exact ev_neg (by simpa using h0) (ev_const (congrArg some (no (fun h => h0 ⟨h.1, h.2.1⟩))))
open Classical in
theorem rvalid_l0 (N : Int) (sw : List S69) (fe : List S71) (hl : fe.length ≤ 6) (hs : sw.length ≤ 10) : ∀ (d i : Nat), i + d = sw.length → (∀ j (h : j < sw.length), j < i → SwIs N sw[j]) →
    Ev (fun k => dropperref05_Valid.l0 k (i : Int) N sw fe) (decide ((∀ s ∈ sw, SwIs N s) ∧ ∀ f ∈ fe, FeIs N f)) := by
  intro d
  induction d with
  | zero =>
    intro i hi hb
    have hall : ∀ s ∈ sw, SwIs N s := by
      intro f hf
      obtain ⟨j, hj, rfl⟩ := List.mem_iff_getElem.1 hf
      exact hb j hj (by omega)
    have e : decide ((∀ s ∈ sw, SwIs N s) ∧ ∀ f ∈ fe, FeIs N f) = decide (∀ f ∈ fe, FeIs N f) := by
      rw [decide_eq_decide]; exact ⟨fun h => h.2, fun h => ⟨hall, h⟩⟩
    rw [e]
    refine Ev.step (fun k => by rw [dropperref05_Valid.l0]) ?_
    exact ev_neg (by omega) (rvalid_l1 N sw fe hl fe.length 0 (by omega) (fun j h hj => by omega))
  | succ d ih =>
    intro i hi hb
    have hlt : i < sw.length := by omega
    have no : ¬ SwIs N sw[i] → (false : Bool) = decide ((∀ s ∈ sw, SwIs N s) ∧ ∀ f ∈ fe, FeIs N f) := fun h => by
      symm; rw [decide_eq_false_iff_not]; exact fun h2 => h (h2.1 _ (List.getElem_mem hlt))
    refine Ev.step (fun k => by rw [dropperref05_Valid.l0]) ?_
    rw [rd_S69 sw i hlt, section_f, section_f, wrap_succ i (by omega)]
    refine ev_pos (by omega) (ev_pos (by omega) (ev_some ?_))
    by_cases h0 : 0 ≤ sw[i].f0 ∧ sw[i].f0 < N
    · refine ev_pos (decide_eq_true h0) (ev_some ?_)
      by_cases h1 : 0 ≤ sw[i].f1 ∧ sw[i].f1 < N
      · refine ev_pos (decide_eq_true h1) ?_
        by_cases h2 : sw[i].f0 = sw[i].f1
        · exact ev_pos h2 (ev_const (congrArg some (no (fun h => h.2.2.2.2 h2))))
        refine ev_neg h2 (ih (i + 1) (by omega) (fun j hj hji => ?_))
        by_cases h : j < i
        · exact hb j hj h
        · obtain rfl : j = i := by omega
          exact ⟨h0.1, h0.2, h1.1, h1.2, h2⟩
      · exact ev_neg (by simpa using h1) (ev_const (congrArg some (no (fun h => h1 ⟨h.2.2.1, h.2.2.2.1⟩))))
    · exact ev_neg (by simpa using h0) (ev_const (congrArg some (no (fun h => h0 ⟨h.1, h.2.1⟩))))
open Classical in
theorem rvalid_ev (N : Int) (sw : List S69) (fe : List S71) : Ev (fun k => dropperref05_Valid.f k N sw fe) (decide (GridOk N sw fe)) := by
  have no : ¬ GridOk N sw fe → Ev (fun k => dropperref05_Valid.j0 k true N sw fe) (decide (GridOk N sw fe)) := fun h => by
    rw [decide_eq_false h]
    refine Ev.step (fun k => by rw [dropperref05_Valid.j0]) ?_
    exact ev_pos rfl (Ev.now _)
  unfold dropperref05_Valid.f
  by_cases h1 : N < 1
  · exact ev_pos h1 (no (fun h => by have := h.1; omega))
  refine ev_neg h1 ?_
  by_cases h2 : N > 8
  · exact ev_pos h2 (no (fun h => by have := h.2.1; omega))
  refine ev_neg h2 ?_
  by_cases h3 : (sw.length : Int) > 10
  · exact ev_pos h3 (no (fun h => by have := h.2.2.1; omega))
  refine ev_neg h3 ?_
  by_cases h4 : (fe.length : Int) > 6
  · rw [decide_eq_true h4]
    exact no (fun h => by have := h.2.2.2.1; omega)
  rw [decide_eq_false h4]
  refine Ev.step (fun k => by rw [dropperref05_Valid.j0]) (ev_neg (by simp) ?_)
  have e : decide (GridOk N sw fe) = decide ((∀ s ∈ sw, SwIs N s) ∧ ∀ f ∈ fe, FeIs N f) := by
    rw [decide_eq_decide]
    exact ⟨fun h => h.2.2.2.2, fun h => ⟨by omega, by omega, by omega, by omega, h⟩⟩
  rw [e]
  exact rvalid_l0 N sw fe (by omega) (by omega) sw.length 0 (by omega) (fun j h hj => by omega)
end Go.Proofs.YtoilhnmdemnknaaDoor.Plain

/- What is live, and which states are right, as the program reckons them. -/
namespace Go.Proofs.YtoilhnmdemnknaaDoor.Plain
set_option linter.unusedVariables false
set_option linter.unusedSimpArgs false
open Go.RowKit Go.Proofs.YtoilhnmdemnknaaDoor.XFeed Go.Proofs.YtoilhnmdemnknaaDoorW.PrintWords Go.Proofs.YtoilhnmdemnknaaDoorW.PrintLast Go.Proofs.YtoilhnmdemnknaaDoorW.PrintMore

def cn (m : Nat) : Nat := ((List.range 4).filter m.testBit).length
def lv (m : Nat) : Int := if cn m = 0 then 0 else if cn m = 1 then (if m = 1 then 0 else if m = 2 then 1 else if m = 4 then 2 else 3) else -1
/-- a section's mark -/
def Mark (sw : List S69) (st n : Nat) (fe : List S71) (l : List Int) : Prop := l.length = n ∧ ∀ i, i < n → ∃ m, rd l (i : Int) = lv m ∧ Mask sw st fe i m
theorem mask_unique {sw : List S69} {st : Nat} {fe : List S71} {i m m' : Nat} (h : Mask sw st fe i m) (h' : Mask sw st fe i m') : m = m' := by
  apply Nat.eq_of_testBit_eq
  intro p
  rw [Bool.eq_iff_iff, h.2, h'.2]
end Go.Proofs.YtoilhnmdemnknaaDoor.Plain

/- Live, Right, States of a grid as described. -/
namespace Go.Proofs.YtoilhnmdemnknaaDoor.Plain
set_option linter.unusedVariables false
set_option linter.unusedSimpArgs false
open Go.RowKit Go.Proofs.YtoilhnmdemnknaaDoor.XFeed Go.Proofs.YtoilhnmdemnknaaDoorW.PrintWords Go.Proofs.YtoilhnmdemnknaaDoorW.PrintLast Go.Proofs.YtoilhnmdemnknaaDoorW.PrintMore

theorem GridOk.sw8 {n : Nat} {sw : List S69} {fe : List S71} (h : GridOk (n : Int) sw fe) : SwOk 8 sw := fun s hs => by
  have := h.2.2.2.2.1 s hs
  have := h.2.1
  unfold SwIs at *
  omega
theorem GridOk.fe {n : Nat} {sw : List S69} {fe : List S71} (h : GridOk (n : Int) sw fe) : FeOk n fe := fun f hf => h.2.2.2.2.2 f hf
theorem all_f (N : Int) (sw : List S69) (fe : List S71) (h : sw.length ≤ 10) : feed_grid_all.f N sw fe = some ((2 ^ sw.length : Nat) : Int) := by
  unfold feed_grid_all.f
  have hp : 2 ^ sw.length ≤ 2 ^ 10 := Nat.pow_le_pow_right (by decide) h
  rw [show (1 : Int) = ((1 : Nat) : Int) from rfl, shl_i (by omega) (by omega), Nat.one_shiftLeft]
theorem within_f (a b c : Int) : feed_within.f a b c = some (decide (a ≤ b ∧ b ≤ c)) := by
  unfold feed_within.f
  by_cases h : a ≤ b
  · rw [if_pos h]; congr 1; rw [decide_eq_decide]; omega
  · rw [if_neg h]; congr 1; symm; rw [decide_eq_false_iff_not]; omega
open Classical in
theorem open_f (N : Int) (sw : List S69) (fe : List S71) (st : Int) :
    feed_open.f N sw fe st = some (N, if GridOk N sw fe then (if 0 ≤ st ∧ st < ((2 ^ sw.length : Nat) : Int) then 0 else 51) else 50) := by
  unfold feed_open.f
  rw [valid_f]
  by_cases h : GridOk N sw fe
  · have hl := h.2.2.1
    have hp : 2 ^ sw.length ≤ 2 ^ 10 := Nat.pow_le_pow_right (by decide) hl
    rw [decide_eq_true h, if_pos h]
    simp only [Option.bind_some, if_true]
    rw [all_f N sw fe hl]
    simp only [Option.bind_some]
    generalize 2 ^ sw.length = P at *
    rw [wrap_id (by omega) (by omega), within_f]
    simp only [Option.bind_some]
    by_cases h2 : 0 ≤ st ∧ st < (P : Int)
    · rw [if_pos (decide_eq_true (by omega)), if_pos h2]
    · rw [if_neg (by simp only [decide_eq_true_eq]; omega), if_neg h2]
  · rw [decide_eq_false h, if_neg h]; rfl
end Go.Proofs.YtoilhnmdemnknaaDoor.Plain

/- One more closed switch never takes anything away. -/
namespace Go.Proofs.YtoilhnmdemnknaaDoor.Plain
set_option linter.unusedVariables false
set_option linter.unusedSimpArgs false
open Go.RowKit Go.Proofs.YtoilhnmdemnknaaDoor.XFeed Go.Proofs.YtoilhnmdemnknaaDoorW.PrintWords Go.Proofs.YtoilhnmdemnknaaDoorW.PrintLast Go.Proofs.YtoilhnmdemnknaaDoorW.PrintMore

theorem mask_zero {sw : List S69} {st n : Nat} {fe : List S71} (hfe : FeOk n fe) {i m : Nat} (h : Mask sw st fe i m) : m.testBit 0 = false := by
  rw [Bool.eq_false_iff]
  intro hb
  obtain ⟨f, hf, e, _⟩ := (h.2 0).1 hb
  have := hfe f hf
  omega
end Go.Proofs.YtoilhnmdemnknaaDoor.Plain

/- What the document's answer reckons: from, live, right, States; and that it is what the program reckons. -/
namespace Go.Proofs.YtoilhnmdemnknaaDoor.Plain
set_option linter.unusedVariables false
set_option linter.unusedSimpArgs false
open Go.RowKit Go.Proofs.YtoilhnmdemnknaaDoor.XFeed Go.Proofs.YtoilhnmdemnknaaDoorW.PrintWords Go.Proofs.YtoilhnmdemnknaaDoorW.PrintLast Go.Proofs.YtoilhnmdemnknaaDoorW.PrintMore

/-- a mask as a list -/
def bl (n m : Nat) : List Bool := (List.range n).map m.testBit
theorem bl_len (n m : Nat) : (bl n m).length = n := by simp [bl]
theorem rd_bl {n m i : Nat} (h : i < n) : rdOf false (bl n m) (i : Int) = m.testBit i := by simp [rdOf, bl, List.getD_eq_getElem?_getD, h]
theorem bl_set2 {n m x y : Nat} (hx : x < n) (hy : y < n) : ((bl n m).set x true).set y true = bl n (m ||| two x y) := by
  apply List.ext_getElem
  · simp [bl]
  · intro i h1 h2
    simp only [bl, List.getElem_set, List.getElem_map, List.getElem_range, Nat.testBit_or, two_bit]
    by_cases a : y = i
    · subst a; simp
    · by_cases b : x = i
      · subst b; simp [a]
      · rw [if_neg a, if_neg b, decide_eq_false (fun e => b e.symm), decide_eq_false (fun e => a e.symm)]; simp
theorem closed_f {st i : Nat} (hs : st < 2 ^ 62) (hi : i ≤ 64) : dropperref05_closed.f (st : Int) (i : Int) = some (st.testBit i) := by
  unfold dropperref05_closed.f
  rw [bit_i hs hi, if_pos (by omega)]
  cases st.testBit i <;> rfl
theorem from_l1 (n : Nat) (hn : n ≤ 8) (sw : List S69) (fe : List S71) (hsw : SwOk n sw) (hlen : sw.length ≤ 20) (st a : Nat) (hst : st < 2 ^ 20) (m0 : Nat)
    (IH : ∀ m, m0 < m → Sound sw st a m → ∃ r, Ev (fun k => dropperref05_from.l0 k (st : Int) (bl n m) true (n : Int) sw fe) (bl n r) ∧ Group sw st a r) :
    ∀ (d i m : Nat) (b : Bool), i + d = sw.length → Sound sw st a m → (b = false → m = m0 ∧ Even sw st m0 i) → (b = true → m0 < m) →
    ∃ r, Ev (fun k => dropperref05_from.l1 k (st : Int) (bl n m) b (i : Int) (n : Int) sw fe) (bl n r) ∧ Group sw st a r := by
  intro d
  induction d with
  | zero =>
    intro i m b hi hs hf ht
    obtain rfl : i = sw.length := by omega
    cases b with
    | true =>
      obtain ⟨r, h1, h2⟩ := IH m (ht rfl) hs
      refine ⟨r, ?_, h2⟩
      refine Ev.step (fun k => by rw [dropperref05_from.l1]) ?_
      exact ev_neg (by omega) h1
    | false =>
      obtain ⟨rfl, he⟩ := hf rfl
      refine ⟨m, ?_, hs, he⟩
      refine Ev.step (fun k => by rw [dropperref05_from.l1]) (ev_neg (by omega) ?_)
      refine Ev.step (fun k => by rw [dropperref05_from.l0]) ?_
      exact ev_neg (by simp) (Ev.now _)
  | succ d ih =>
    intro i m b hi hs hf ht
    have hlt : i < sw.length := by omega
    have hm := hs.1
    obtain ⟨x0, x1, y0, y1, hxy⟩ := hsw sw[i] (List.getElem_mem hlt)
    obtain ⟨x, hx⟩ := Int.eq_ofNat_of_zero_le x0
    obtain ⟨y, hy⟩ := Int.eq_ofNat_of_zero_le y0
    have hxn : x < n := by omega
    have hyn : y < n := by omega
    have hL := bl_len n m
    have keep : ∀ (hE : st.testBit i = true → m.testBit x = m.testBit y), b = false → m = m0 ∧ Even sw st m0 (i + 1) := by
      intro hE hb
      obtain ⟨rfl, he⟩ := hf hb
      refine ⟨rfl, fun j hj hji hjb => ?_⟩
      by_cases h : j < i
      · exact he j hj h hjb
      · obtain rfl : j = i := by omega
        rw [hx, hy, Int.toNat_natCast, Int.toNat_natCast]
        exact hE hjb
    have rx := rd_bl (m := m) hxn
    have ry := rd_bl (m := m) hyn
    by_cases hbit : st.testBit i = true
    · by_cases hxy2 : m.testBit x = m.testBit y
      · obtain ⟨r, h1, h2⟩ := ih (i + 1) m b (by omega) hs (keep fun _ => hxy2) ht
        refine ⟨r, ?_, h2⟩
        refine Ev.step (fun k => by rw [dropperref05_from.l1]) ?_
        rw [rd_S69 sw i hlt, hx, hy, closed_f (by omega) (by omega), hbit, rx, ry, wrap_succ i (by omega), hL]
        exact ev_pos (by omega) (ev_pos (by omega) (ev_some (ev_pos rfl (ev_pos (by omega) (ev_pos (by omega) (ev_pos (by omega) (ev_pos (by omega) (ev_neg (by simp [hxy2]) h1))))))))
      · have hor : m.testBit x = true ∨ m.testBit y = true := by
          cases hq1 : m.testBit x <;> cases hq2 : m.testBit y <;> simp [hq1, hq2] at hxy2 ⊢
        have ha : m &&& two x y ≠ two x y := fun e => by
          have := and_two_all.1 e
          exact hxy2 (this.1.trans this.2.symm)
        have hgt := or_gt ha
        have hm0 : m0 < m ||| two x y := by
          cases b with
          | true => have := ht rfl; omega
          | false => have := (hf rfl).1; omega
        obtain ⟨r, h1, h2⟩ := ih (i + 1) (m ||| two x y) true (by omega) (or_two_sound hs hlt hbit hx hy (by omega) (by omega) hor) (fun h => by cases h) (fun _ => hm0)
        refine ⟨r, ?_, h2⟩
        refine Ev.step (fun k => by rw [dropperref05_from.l1]) ?_
        rw [rd_S69 sw i hlt, hx, hy, closed_f (by omega) (by omega), hbit, rx, ry, wrap_succ i (by omega), hL, Int.toNat_natCast, Int.toNat_natCast, bl_set2 hxn hyn]
        exact ev_pos (by omega) (ev_pos (by omega) (ev_some (ev_pos rfl (ev_pos (by omega) (ev_pos (by omega) (ev_pos (by omega) (ev_pos (by omega) (ev_pos (by simpa using hxy2) h1))))))))
    · obtain ⟨r, h1, h2⟩ := ih (i + 1) m b (by omega) hs (keep fun h => absurd h hbit) ht
      refine ⟨r, ?_, h2⟩
      refine Ev.step (fun k => by rw [dropperref05_from.l1]) ?_
      rw [closed_f (by omega) (by omega), wrap_succ i (by omega)]
      exact ev_pos (by omega) (ev_pos (by omega) (ev_some (ev_neg hbit h1)))
theorem from_l0 (n : Nat) (hn : n ≤ 8) (sw : List S69) (fe : List S71) (hsw : SwOk n sw) (hlen : sw.length ≤ 20) (st a : Nat) (hst : st < 2 ^ 20) :
    ∀ (q m : Nat), 256 - m ≤ q → Sound sw st a m → ∃ r, Ev (fun k => dropperref05_from.l0 k (st : Int) (bl n m) true (n : Int) sw fe) (bl n r) ∧ Group sw st a r := by
  intro q
  induction q with
  | zero => intro m hq hs; have := hs.1; omega
  | succ q ih =>
    intro m hq hs
    have hm := hs.1
    obtain ⟨r, h1, h2⟩ := from_l1 n hn sw fe hsw hlen st a hst m (fun m' hm' hs' => ih m' (by omega) hs') sw.length 0 m false (by omega) hs (fun _ => ⟨rfl, fun j hj hji => by omega⟩) (fun h => by cases h)
    refine ⟨r, ?_, h2⟩
    refine Ev.step (fun k => by rw [dropperref05_from.l0]) ?_
    exact ev_pos rfl h1
theorem from_ev (n : Nat) (hn : n ≤ 8) (sw : List S69) (fe : List S71) (hsw : SwOk n sw) (hlen : sw.length ≤ 20) (st a : Nat) (hst : st < 2 ^ 20) (ha : a < n) :
    ∃ r : Nat, Ev (fun k => dropperref05_from.f k (n : Int) sw fe (st : Int) (a : Int)) (bl n r) ∧ r < 256 ∧ ∀ j, r.testBit j = true ↔ Conn sw st a j := by
  have hs : Sound sw st a (1 <<< a) := by
    refine ⟨by rw [Nat.one_shiftLeft]; exact Nat.lt_of_lt_of_le (Nat.pow_lt_pow_right (by decide) (show a < 8 by omega)) (by decide), by rw [Nat.one_shiftLeft, Nat.testBit_two_pow]; simp, fun j hj => ?_⟩
    rw [Nat.one_shiftLeft, Nat.testBit_two_pow] at hj
    obtain rfl : a = j := by simpa using hj
    exact Conn.refl
  obtain ⟨r, h1, h2⟩ := from_l0 n hn sw fe hsw hlen st a hst 256 (1 <<< a) (Nat.sub_le _ _) hs
  refine ⟨r, ?_, h2.1.1, fun j => ⟨h2.1.2.2 j, fun h => conn_of_even h2.1 h2.2 h⟩⟩
  unfold dropperref05_from.f
  have e : (List.replicate n false).set a true = bl n (1 <<< a) := by
    apply List.ext_getElem
    · simp [bl]
    · intro i h1 h2
      simp only [bl, List.getElem_set, List.getElem_map, List.getElem_range, List.getElem_replicate, Nat.one_shiftLeft, Nat.testBit_two_pow]
      by_cases h : a = i <;> simp [h]
  have hL : (List.replicate n false).length = n := List.length_replicate
  rw [Int.toNat_natCast, Int.toNat_natCast]
  refine ev_pos (by omega) (ev_pos (by omega) (ev_some ?_))
  refine ev_pos (by omega) (ev_pos (by rw [hL]; omega) ?_)
  rw [e]
  exact h1

theorem mask_new {sw : List S69} {st : Nat} {i : Nat} : Mask sw st [] i 0 := ⟨by decide, fun p => by simp⟩
theorem lv_or : ∀ m : Nat, m < 16 → ∀ q : Nat, q < 4 → m.testBit 0 = false → 1 ≤ q → lv (m ||| 1 <<< q) = if lv m = 0 then (q : Int) else if lv m = q then lv m else -1 := by decide +kernel
theorem FeOk.take {n : Nat} {fe : List S71} (h : FeOk n fe) (q : Nat) : FeOk n (fe.take q) := fun f hf => h f (List.mem_of_mem_take hf)
def MarkAt (sw : List S69) (st : Nat) (fs : List S71) (i : Nat) (v : Int) : Prop := ∃ m, v = lv m ∧ Mask sw st fs i m
theorem rlive_l1 (n : Nat) (hn : n ≤ 8) (sw : List S69) (fe : List S71) (hfe : FeOk n fe) (hfl : fe.length ≤ 20) (st : Nat) (q : Nat) (hq : q < fe.length) (g : Nat) (hg : g < 256) (hgc : ∀ j, g.testBit j = true ↔ Conn sw st fe[q].f0.toNat j)
    (hend : ∀ l', Mark sw st n (fe.take (q + 1)) l' → ∃ r, Ev (fun k => dropperref05_live.l0 k (st : Int) l' ((q + 1 : Nat) : Int) (n : Int) sw fe) r ∧ Mark sw st n fe r) :
    ∀ (d i : Nat) (l : List Int), i + d = n → l.length = n → (∀ j, j < n → MarkAt sw st (if j < i then fe.take (q + 1) else fe.take q) j (rd l (j : Int))) →
    ∃ r, Ev (fun k => dropperref05_live.l1 k (st : Int) l (q : Int) (bl n g) (i : Int) (n : Int) sw fe) r ∧ Mark sw st n fe r := by
  have htk : fe.take (q + 1) = fe.take q ++ [fe[q]] := List.take_succ_eq_append_getElem hq
  obtain ⟨f0, f1, f2, f3⟩ := hfe fe[q] (List.getElem_mem hq)
  obtain ⟨p, hp⟩ := Int.eq_ofNat_of_zero_le (show 0 ≤ fe[q].f1 by omega)
  have hL := bl_len n g
  intro d
  induction d with
  | zero =>
    intro i l hi hl hm
    obtain rfl : i = n := by omega
    obtain ⟨r, h1, h2⟩ := hend l ⟨hl, fun j hj => by
      have h := hm j hj
      rw [if_pos hj] at h
      exact h⟩
    refine ⟨r, ?_, h2⟩
    refine Ev.step (fun k => by rw [dropperref05_live.l1]) ?_
    rw [wrap_succ q (by omega)]
    exact ev_neg (by omega) h1
  | succ d ih =>
    intro i l hi hl hm
    obtain ⟨m, e, h⟩ := hm i (by omega)
    rw [if_neg (by omega)] at h
    have hm16 := h.1
    have hm0 := mask_zero (n := n) (hfe.take q) h
    have rg := rd_bl (m := g) (show i < n by omega)
    have next : ∀ l' : List Int, l'.length = n → (∀ j, j < n → j ≠ i → rd l' (j : Int) = rd l (j : Int)) → MarkAt sw st (fe.take (q + 1)) i (rd l' (i : Int)) →
        ∃ r, Ev (fun k => dropperref05_live.l1 k (st : Int) l' (q : Int) (bl n g) ((i + 1 : Nat) : Int) (n : Int) sw fe) r ∧ Mark sw st n fe r := by
      intro l' hl' hne hat
      refine ih (i + 1) l' (by omega) hl' (fun j hj => ?_)
      by_cases hji : j = i
      · subst hji; rw [if_pos (by omega)]; exact hat
      · rw [hne j hj hji]
        have h' := hm j hj
        by_cases hlt : j < i
        · rw [if_pos hlt] at h'; rw [if_pos (by omega)]; exact h'
        · rw [if_neg hlt] at h'; rw [if_neg (by omega)]; exact h'
    by_cases hc : g.testBit i = true
    · have hcc := (hgc i).1 hc
      have hmy := mask_yes h hcc hp (by omega)
      rw [← htk] at hmy
      have hlo := lv_or m hm16 p (by omega) hm0 (by omega)
      by_cases h0 : rd l (i : Int) = 0
      · obtain ⟨r, h1, h2⟩ := next (l.set i (p : Int)) (by rw [List.length_set]; exact hl) (fun j hj hji => by rw [rd_set _ _ _ _ (by omega), if_neg hji]) ⟨m ||| 1 <<< p, by rw [rd_set _ _ _ _ (by omega), if_pos rfl, hlo, if_pos (by rw [← e]; exact h0)], hmy⟩
        refine ⟨r, ?_, h2⟩
        refine Ev.step (fun k => by rw [dropperref05_live.l1]) ?_
        rw [rd_S71 fe q hq, hp, rg, hc, wrap_succ i (by omega), hL, hl, Int.toNat_natCast]
        exact ev_pos (by omega) (ev_pos (by omega) (ev_pos (by omega) (ev_pos (by omega) (ev_pos (by omega) (ev_pos rfl (ev_pos (by omega) (ev_pos h0 h1)))))))
      · by_cases h1p : rd l (i : Int) = (p : Int)
        · obtain ⟨r, h1, h2⟩ := next l hl (fun j hj hji => rfl) ⟨m ||| 1 <<< p, by rw [hlo, ← e, if_neg h0, if_pos h1p], hmy⟩
          refine ⟨r, ?_, h2⟩
          refine Ev.step (fun k => by rw [dropperref05_live.l1]) ?_
          rw [rd_S71 fe q hq, hp, rg, hc, wrap_succ i (by omega), hL, hl]
          exact ev_pos (by omega) (ev_pos (by omega) (ev_pos (by omega) (ev_pos (by omega) (ev_pos (by omega) (ev_pos rfl (ev_pos (by omega) (ev_neg h0 (ev_pos h1p h1))))))))
        · obtain ⟨r, h1, h2⟩ := next (l.set i (-1)) (by rw [List.length_set]; exact hl) (fun j hj hji => by rw [rd_set _ _ _ _ (by omega), if_neg hji]) ⟨m ||| 1 <<< p, by rw [rd_set _ _ _ _ (by omega), if_pos rfl, hlo, ← e, if_neg h0, if_neg h1p], hmy⟩
          refine ⟨r, ?_, h2⟩
          refine Ev.step (fun k => by rw [dropperref05_live.l1]) ?_
          rw [rd_S71 fe q hq, hp, rg, hc, wrap_succ i (by omega), hL, hl, Int.toNat_natCast]
          exact ev_pos (by omega) (ev_pos (by omega) (ev_pos (by omega) (ev_pos (by omega) (ev_pos (by omega) (ev_pos rfl (ev_pos (by omega) (ev_neg h0 (ev_neg h1p h1))))))))
    · have hmn := mask_no h (fun hx => hc ((hgc i).2 hx))
      rw [← htk] at hmn
      obtain ⟨r, h1, h2⟩ := next l hl (fun j hj hji => rfl) ⟨m, e, hmn⟩
      refine ⟨r, ?_, h2⟩
      refine Ev.step (fun k => by rw [dropperref05_live.l1]) ?_
      rw [rg, wrap_succ i (by omega), hL, hl]
      exact ev_pos (by omega) (ev_pos (by omega) (ev_pos (by omega) (ev_pos (by omega) (ev_pos (by omega) (ev_neg hc h1)))))
theorem rlive_l0 (n : Nat) (hn : n ≤ 8) (sw : List S69) (hsw : SwOk n sw) (hlen : sw.length ≤ 20) (fe : List S71) (hfe : FeOk n fe) (hfl : fe.length ≤ 20) (st : Nat) (hst : st < 2 ^ 20) :
    ∀ (d q : Nat) (l : List Int), q + d = fe.length → Mark sw st n (fe.take q) l → ∃ r, Ev (fun k => dropperref05_live.l0 k (st : Int) l (q : Int) (n : Int) sw fe) r ∧ Mark sw st n fe r := by
  intro d
  induction d with
  | zero =>
    intro q l hq hl
    obtain rfl : q = fe.length := by omega
    rw [List.take_length] at hl
    refine ⟨l, ?_, hl⟩
    refine Ev.step (fun k => by rw [dropperref05_live.l0]) ?_
    exact ev_neg (by omega) (Ev.now _)
  | succ d ih =>
    intro q l hq hl
    have hlt : q < fe.length := by omega
    obtain ⟨f0, f1, f2, f3⟩ := hfe fe[q] (List.getElem_mem hlt)
    obtain ⟨g, hg1, hg2, hg3⟩ := from_ev n hn sw fe hsw hlen st fe[q].f0.toNat hst (by omega)
    rw [Int.toNat_of_nonneg f0] at hg1
    obtain ⟨r, h1, h2⟩ := rlive_l1 n hn sw fe hfe hfl st q hlt g hg2 hg3 (fun l' hl' => ih (q + 1) l' (by omega) hl') n 0 l (by omega) hl.1 (fun j hj => by rw [if_neg (by omega)]; exact hl.2 j hj)
    refine ⟨r, ?_, h2⟩
    refine Ev.step (fun k => by rw [dropperref05_live.l0]) ?_
    rw [rd_S71 fe q hlt]
    exact ev_pos (by omega) (ev_pos (by omega) (Ev.bind hg1 h1))
theorem rlive_ev (n : Nat) (hn : n ≤ 8) (sw : List S69) (hsw : SwOk n sw) (hlen : sw.length ≤ 20) (fe : List S71) (hfe : FeOk n fe) (hfl : fe.length ≤ 20) (st : Nat) (hst : st < 2 ^ 20) :
    ∃ r, Ev (fun k => dropperref05_live.f k (n : Int) sw fe (st : Int)) r ∧ Mark sw st n fe r := by
  obtain ⟨r, h1, h2⟩ := rlive_l0 n hn sw hsw hlen fe hfe hfl st hst fe.length 0 (List.replicate n 0) (by omega) ⟨List.length_replicate, fun i hi => ⟨0, by simp [rd, hi, lv, cn], mask_new⟩⟩
  refine ⟨r, ?_, h2⟩
  unfold dropperref05_live.f
  rw [Int.toNat_natCast]
  exact ev_pos (by omega) (ev_pos (by omega) h1)
theorem mark_unique {sw : List S69} {st n : Nat} {fe : List S71} {l l' : List Int} (h : Mark sw st n fe l) (h' : Mark sw st n fe l') : l = l' := by
  apply List.ext_getElem (h.1.trans h'.1.symm)
  intro i h1 h2
  obtain ⟨m, e, k⟩ := h.2 i (by have := h.1; omega)
  obtain ⟨m', e', k'⟩ := h'.2 i (by have := h.1; omega)
  obtain rfl := mask_unique k k'
  have e1 : rd l (i : Int) = l[i] := by simp [rd, List.getD_eq_getElem?_getD, h1]
  have e2 : rd l' (i : Int) = l'[i] := by simp [rd, List.getD_eq_getElem?_getD, h2]
  rw [← e1, ← e2, e, e']
theorem GridOk.swn {n : Nat} {sw : List S69} {fe : List S71} (h : GridOk (n : Int) sw fe) : SwOk n sw := fun s hs => by
  have := h.2.2.2.2.1 s hs
  unfold SwIs at *
  omega
theorem pow_le10 {n : Nat} {sw : List S69} {fe : List S71} (h : GridOk (n : Int) sw fe) : 2 ^ sw.length ≤ 2 ^ 10 := Nat.pow_le_pow_right (by decide) h.2.2.1
/-- the marks of the sections in a state -/
noncomputable def marks (sw : List S69) (st n : Nat) (fe : List S71) : List Int := open Classical in if h : ∃ l, Mark sw st n fe l then Classical.choose h else []
theorem marks_of {sw : List S69} {st n : Nat} {fe : List S71} {l : List Int} (h : Mark sw st n fe l) : marks sw st n fe = l := by
  have hx : ∃ l, Mark sw st n fe l := ⟨l, h⟩
  unfold marks
  rw [dif_pos hx]
  exact mark_unique (Classical.choose_spec hx) h
section
variable {n : Nat} {sw : List S69} {fe : List S71} (h : GridOk (n : Int) sw fe) {st : Nat} (hst : st < 2 ^ sw.length)
include h hst
theorem marks_mark : Mark sw st n fe (marks sw st n fe) := by
  have hp := pow_le10 h
  obtain ⟨r, h1, h2⟩ := rlive_ev n (by have := h.2.1; omega) sw h.swn (by have := h.2.2.1; omega) fe h.fe (by have := h.2.2.2.1; omega) st (by omega)
  rw [marks_of h2]; exact h2
theorem rlive_val : Ev (fun k => dropperref05_live.f k (n : Int) sw fe (st : Int)) (marks sw st n fe) := by
  have hp := pow_le10 h
  obtain ⟨r, h1, h2⟩ := rlive_ev n (by have := h.2.1; omega) sw h.swn (by have := h.2.2.1; omega) fe h.fe (by have := h.2.2.2.1; omega) st (by omega)
  rw [marks_of h2]; exact h1
theorem marks_len : (marks sw st n fe).length = n := (marks_mark h hst).1
end
end Go.Proofs.YtoilhnmdemnknaaDoor.Plain

/- The exported functions of the program and of the document's answer, by the marks of the sections. -/
namespace Go.Proofs.YtoilhnmdemnknaaDoor.Plain
set_option linter.unusedVariables false
set_option linter.unusedSimpArgs false
open Go.RowKit Go.Proofs.YtoilhnmdemnknaaDoor.XFeed Go.Proofs.YtoilhnmdemnknaaDoorW.PrintWords Go.Proofs.YtoilhnmdemnknaaDoorW.PrintLast Go.Proofs.YtoilhnmdemnknaaDoorW.PrintMore
open Classical

theorem shl_one (n : Nat) (h : n ≤ 20) : shl .i64 1 (n : Int) = ((2 ^ n : Nat) : Int) := by
  have : 2 ^ n ≤ 2 ^ 20 := Nat.pow_le_pow_right (by decide) h
  rw [show (1 : Int) = ((1 : Nat) : Int) from rfl, shl_i (by omega) (by omega), Nat.one_shiftLeft]
theorem large_f (N : Int) (sw : List S69) (fe : List S71) (l : List Int) :
    dropperlaw05_Large.f N sw fe l = some (decide (20 < sw.length ∨ 20 < fe.length ∨ 1100 < l.length)) := by
  unfold dropperlaw05_Large.f
  by_cases h1 : (sw.length : Int) > 20
  · rw [if_pos h1, decide_eq_true (by omega)]
  rw [if_neg h1]
  by_cases h2 : (fe.length : Int) > 20
  · rw [if_pos h2, decide_eq_true (by omega)]
  rw [if_neg h2]
  congr 1
  rw [decide_eq_decide]
  omega
/-- the error of a grid and a state -/
noncomputable def errG (N : Int) (sw : List S69) (fe : List S71) (st : Int) : Int := if GridOk N sw fe then (if 0 ≤ st ∧ st < ((2 ^ sw.length : Nat) : Int) then 0 else 51) else 50
theorem errG_zero {N : Int} {sw : List S69} {fe : List S71} {st : Int} : errG N sw fe st = 0 ↔ GridOk N sw fe ∧ 0 ≤ st ∧ st < ((2 ^ sw.length : Nat) : Int) := by
  unfold errG
  by_cases h : GridOk N sw fe
  · rw [if_pos h]
    by_cases h2 : 0 ≤ st ∧ st < ((2 ^ sw.length : Nat) : Int)
    · rw [if_pos h2]; exact iff_of_true rfl ⟨h, h2⟩
    · rw [if_neg h2]; exact iff_of_false (by decide) (fun e => h2 e.2)
  · rw [if_neg h]; exact iff_of_false (by decide) (fun e => h e.1)
/-- a grid and a state as described, as natural numbers -/
theorem errG_nat {N : Int} {sw : List S69} {fe : List S71} {st : Int} (h : errG N sw fe st = 0) :
    ∃ n s : Nat, N = (n : Int) ∧ st = (s : Int) ∧ GridOk (n : Int) sw fe ∧ s < 2 ^ sw.length := by
  obtain ⟨h1, h2, h3⟩ := errG_zero.1 h
  obtain ⟨n, rfl⟩ := Int.eq_ofNat_of_zero_le (show 0 ≤ N by have := h1.1; omega)
  obtain ⟨s, rfl⟩ := Int.eq_ofNat_of_zero_le h2
  exact ⟨n, s, rfl, rfl, h1, by omega⟩
theorem open_g (N : Int) (sw : List S69) (fe : List S71) (st : Int) : feed_open.f N sw fe st = some (N, errG N sw fe st) := open_f N sw fe st
theorem rasked_ev (N : Int) (sw : List S69) (fe : List S71) (hl : sw.length ≤ 20) (st : Int) : Ev (fun k => dropperref05_asked.f k N sw fe st) (errG N sw fe st) := by
  unfold dropperref05_asked.f
  refine Ev.bind (rvalid_ev N sw fe) ?_
  by_cases h : GridOk N sw fe
  · refine ev_pos (decide_eq_true h) ?_
    unfold dropperref05_IsState.f errG
    rw [shl_one _ hl, if_pos h]
    by_cases h0 : st ≥ 0
    · rw [if_pos h0]
      by_cases h1 : st < ((2 ^ sw.length : Nat) : Int)
      · rw [if_pos ⟨h0, h1⟩]
        exact ev_some (ev_pos (decide_eq_true h1) (Ev.now _))
      · rw [if_neg (fun e => h1 e.2)]
        exact ev_some (ev_neg (by simpa using h1) (Ev.now _))
    · rw [if_neg h0, if_neg (fun e => h0 e.1)]
      exact ev_some (ev_neg (by simp) (Ev.now _))
  · refine ev_neg (by simpa using h) ?_
    unfold errG
    rw [if_neg h]
    exact Ev.now _
theorem rd_get {l : List Int} {i : Nat} (h : i < l.length) : rd l (i : Int) = l[i] := by simp [rd, List.getD_eq_getElem?_getD, h]
section
variable {n : Nat} {sw : List S69} {fe : List S71} (h : GridOk (n : Int) sw fe) {st : Nat} (hst : st < 2 ^ sw.length)
include h hst
end
end Go.Proofs.YtoilhnmdemnknaaDoor.Plain

/- Isolations: which lists are some, and the fewest. -/
namespace Go.Proofs.YtoilhnmdemnknaaDoor.Plain
set_option linter.unusedVariables false
set_option linter.unusedSimpArgs false
open Go.RowKit Go.Proofs.YtoilhnmdemnknaaDoor.XFeed Go.Proofs.YtoilhnmdemnknaaDoorW.PrintWords Go.Proofs.YtoilhnmdemnknaaDoorW.PrintLast Go.Proofs.YtoilhnmdemnknaaDoorW.PrintMore
open Classical

/-! what is left of a number without the bits of another one -/
theorem andNot_i {x y : Nat} (hx : x < 2 ^ 62) (hy : y < 2 ^ 62) : Go.bits .andNot .i64 (x : Int) (y : Int) = ((x ^^^ (x &&& y) : Nat) : Int) := by
  have h1 : x &&& y < 2 ^ 62 := Nat.and_lt_two_pow x hy
  have h : x ^^^ (x &&& y) < 2 ^ 62 := Nat.xor_lt_two_pow hx h1
  have e : (BitVec.ofNat 64 x &&& ~~~ BitVec.ofNat 64 y).toNat = x ^^^ (x &&& y) := by
    have e2 : BitVec.ofNat 64 x &&& ~~~ BitVec.ofNat 64 y = BitVec.ofNat 64 x ^^^ (BitVec.ofNat 64 x &&& BitVec.ofNat 64 y) := by
      apply BitVec.eq_of_getElem_eq
      intro i hi
      simp only [BitVec.getElem_and, BitVec.getElem_not, BitVec.getElem_xor]
      cases (BitVec.ofNat 64 x)[i] <;> cases (BitVec.ofNat 64 y)[i] <;> rfl
    rw [e2, BitVec.toNat_xor, BitVec.toNat_and, BitVec.toNat_ofNat, BitVec.toNat_ofNat, Nat.mod_eq_of_lt (show x < 2 ^ 64 by omega), Nat.mod_eq_of_lt (show y < 2 ^ 64 by omega)]
  simp only [Go.bits, ofInt_nat]
  rw [show IntKind.i64.bits = 64 from rfl, e]
  exact wrapI h
theorem gb {x i : Nat} (hi : i < 64) : (BitVec.ofNat 64 x)[i] = x.testBit i := by
  rw [← BitVec.getLsbD_eq_getElem, BitVec.getLsbD_ofNat]; simp [hi]
theorem xor_sub {x y : Nat} (hx : x < 2 ^ 62) (h : x &&& y = y) : x ^^^ y = x - y := by
  have hy : y ≤ x := by rw [← h]; exact Nat.and_le_left
  have h62 : x ^^^ y < 2 ^ 62 := Nat.xor_lt_two_pow hx (by omega)
  have hb : ∀ i, x.testBit i = false → y.testBit i = false := fun i hi => by
    have := congrArg (fun z => z.testBit i) h
    simp only [Nat.testBit_and, hi, Bool.false_and] at this
    exact this.symm
  have e : BitVec.ofNat 64 (x ^^^ y) + BitVec.ofNat 64 y = BitVec.ofNat 64 x := by
    rw [BitVec.add_eq_or_of_and_eq_zero]
    · apply BitVec.eq_of_getElem_eq
      intro i hi
      simp only [BitVec.getElem_or, gb, Nat.testBit_xor]
      cases hxi : x.testBit i <;> cases hyi : y.testBit i <;> simp_all
    · apply BitVec.eq_of_getElem_eq
      intro i hi
      simp only [BitVec.getElem_and, gb, Nat.testBit_xor, BitVec.getElem_zero]
      cases hxi : x.testBit i <;> cases hyi : y.testBit i <;> simp_all
  have e2 := congrArg BitVec.toNat e
  rw [BitVec.toNat_add, BitVec.toNat_ofNat, BitVec.toNat_ofNat, BitVec.toNat_ofNat] at e2
  omega
theorem sub_bit {x y : Nat} (hx : x < 2 ^ 62) (h : x &&& y = y) (i : Nat) : (x - y).testBit i = (x.testBit i && !y.testBit i) := by
  rw [← xor_sub hx h, Nat.testBit_xor]
  have := congrArg (fun z => z.testBit i) h
  simp only [Nat.testBit_and] at this
  cases hxi : x.testBit i <;> cases hyi : y.testBit i <;> simp_all
theorem and_pow {x i : Nat} (h : x.testBit i = true) : x &&& 2 ^ i = 2 ^ i := by
  apply Nat.eq_of_testBit_eq
  intro j
  rw [Nat.testBit_and, Nat.testBit_two_pow]
  by_cases e : i = j
  · subst e; simp [h]
  · simp [e]
theorem sub_pow {x i : Nat} (hx : x < 2 ^ 62) (hi : i ≤ 20) (h : x.testBit i = true) : Go.bits .andNot .i64 (x : Int) (shl .i64 1 (i : Int)) = ((x - 2 ^ i : Nat) : Int) := by
  have : 2 ^ i ≤ 2 ^ 20 := Nat.pow_le_pow_right (by decide) hi
  rw [shl_one i hi, andNot_i hx (by omega), and_pow h, xor_sub hx (and_pow h)]
theorem pow_le_of {x i : Nat} (h : x.testBit i = true) : 2 ^ i ≤ x := by rw [← and_pow h]; exact Nat.and_le_left

/-! a section is dead -/
theorem lv_zero : ∀ m : Nat, m < 16 → m.testBit 0 = false → (lv m = 0 ↔ m = 0) := by decide +kernel
noncomputable def deadB (sw : List S69) (st n : Nat) (fe : List S71) (i : Nat) : Bool := rd (marks sw st n fe) (i : Int) == 0
section
variable {n : Nat} {sw : List S69} {fe : List S71} (h : GridOk (n : Int) sw fe) {st : Nat} (hst : st < 2 ^ sw.length)
include h hst
theorem dead_val {i : Nat} (hi : i < n) : Ev (fun k => feed_grid_dead.f k (n : Int) sw fe (st : Int) (i : Int)) (deadB sw st n fe i) := by
  have hp := pow_le10 h
  have hn := h.2.1
  obtain ⟨l, h1, h2, h3⟩ := fed_ev n (by omega) sw h.sw8 (by have := h.2.2.1; omega) fe h.fe (by have := h.2.2.2.1; omega) st (by omega)
  obtain ⟨m, e, hm⟩ := h3 i hi
  obtain ⟨m', e', hm'⟩ := (marks_mark h hst).2 i hi
  obtain rfl := mask_unique hm hm'
  have hz := lv_zero m hm.1 (mask_zero (n := n) h.fe hm)
  unfold feed_grid_dead.f
  refine Ev.bind h1 (ev_pos (by omega) (ev_pos (by omega) (ev_const (congrArg some ?_))))
  unfold deadB
  rw [e, e', Bool.eq_iff_iff, beq_iff_eq, beq_iff_eq, hz]
  omega
theorem dead_iff {i : Nat} (hi : i < n) : deadB sw st n fe i = true ↔ ∀ f ∈ fe, ¬ Conn sw st f.f0.toNat i := by
  obtain ⟨m, e, hm⟩ := (marks_mark h hst).2 i hi
  have hz := lv_zero m hm.1 (mask_zero (n := n) h.fe hm)
  unfold deadB
  rw [beq_iff_eq, e, hz]
  constructor
  · rintro rfl f hf hc
    obtain ⟨p, hp⟩ := Int.eq_ofNat_of_zero_le (show 0 ≤ f.f1 by have := h.fe f hf; omega)
    have := (hm.2 p).2 ⟨f, hf, hp, hc⟩
    simp at this
  · intro hall
    apply Nat.eq_of_testBit_eq
    intro p
    rw [Nat.zero_testBit, Bool.eq_false_iff]
    intro hb
    obtain ⟨f, hf, _, hc⟩ := (hm.2 p).1 hb
    exact hall f hf hc
end

/-! the lists -/
def chk (len st : Nat) (prev : Int) : List Int → Bool
  | [] => true
  | v :: t => decide (0 ≤ v ∧ v < (len : Int)) && st.testBit v.toNat && decide (prev < v) && chk len st v t
def minus (left : Nat) : List Int → Nat
  | [] => left
  | v :: t => minus (left - 2 ^ v.toNat) t
theorem chk_iff (len st : Nat) (t : List Int) : ∀ prev, chk len st prev t = true ↔ (∀ v ∈ t, 0 ≤ v ∧ v < (len : Int) ∧ st.testBit v.toNat = true ∧ prev < v) ∧ t.Pairwise (· < ·) := by
  induction t with
  | nil => intro prev; simp [chk]
  | cons v t ih =>
    intro prev
    unfold chk
    simp only [Bool.and_eq_true, decide_eq_true_eq, ih, List.mem_cons, List.pairwise_cons]
    constructor
    · rintro ⟨⟨⟨⟨a, b⟩, c⟩, d⟩, e, f⟩
      refine ⟨fun x hx => ?_, fun x hx => (e x hx).2.2.2, f⟩
      rcases hx with rfl | hx
      · exact ⟨a, b, c, d⟩
      · have := e x hx
        exact ⟨this.1, this.2.1, this.2.2.1, by omega⟩
    · rintro ⟨a, b, c⟩
      have hv := a v (.inl rfl)
      refine ⟨⟨⟨⟨hv.1, hv.2.1⟩, hv.2.2.1⟩, hv.2.2.2⟩, fun x hx => ?_, c⟩
      have := a x (.inr hx)
      exact ⟨this.1, this.2.1, this.2.2.1, b x hx⟩
theorem within_i {a b c : Int} : feed_within.f a b c = some (decide (a ≤ b ∧ b ≤ c)) := within_f a b c
/-- what stands in front of an index -/
def before (l : List Int) (i : Nat) : Int := if i = 0 then -1 else rd l ((i - 1 : Nat) : Int)
theorem drop_cons {l : List Int} {i : Nat} (h : i < l.length) : l.drop i = l[i] :: l.drop (i + 1) := List.drop_eq_getElem_cons h
section
variable {n : Nat} {sw : List S69} {fe : List S71} (h : GridOk (n : Int) sw fe) {st : Nat} (hst : st < 2 ^ sw.length) {sec : Nat} (hsec : sec < n) (l : List Int) (hl : l.length ≤ 4000000000000000000)
include h hst hsec hl
theorem iso_l0 : ∀ (d i left : Nat), i + d = l.length → left < 2 ^ sw.length → (∀ j : Nat, before l i < (j : Int) → left.testBit j = st.testBit j) →
    Ev (fun k => feed_Isolates.l0 k (st : Int) (sec : Int) l (left : Int) l (l.length : Int) (i : Int) (n : Int) sw fe (n : Int) sw fe)
      (if chk sw.length st (before l i) (l.drop i) = true then (deadB sw (minus left (l.drop i)) n fe sec, 0) else (false, 0)) := by
  have hp := pow_le10 h
  have hlen := h.2.2.1
  intro d
  induction d with
  | zero =>
    intro i left hi hlt hb
    obtain rfl : i = l.length := by omega
    rw [List.drop_length, if_pos (show chk sw.length st (before l l.length) [] = true from rfl)]
    refine Ev.step (fun k => by rw [feed_Isolates.l0]) ?_
    exact ev_neg (by omega) (Ev.bind (dead_val h hlt hsec) (Ev.now _))
  | succ d ih =>
    intro i left hi hlt hb
    have hil : i < l.length := by omega
    have en : before l (i + 1) = l[i] := by unfold before; rw [if_neg (by omega), Nat.add_sub_cancel, rd_get hil]
    rw [drop_cons hil]
    refine Ev.step (fun k => by rw [feed_Isolates.l0]) ?_
    rw [rd_get hil, wrap_succ i (by omega), within_i, wrap_id (x := (sw.length : Int) - 1) (by omega) (by omega)]
    refine ev_pos (by omega) (ev_pos (by omega) (ev_pos (by omega) (ev_some ?_)))
    by_cases hr : 0 ≤ l[i] ∧ l[i] < (sw.length : Int)
    · refine ev_pos (decide_eq_true (by omega)) ?_
      obtain ⟨v, hv⟩ := Int.eq_ofNat_of_zero_le hr.1
      rw [hv] at hr en ⊢
      rw [bit_i (by omega) (by omega)]
      refine ev_pos (by omega) ?_
      by_cases hbt : st.testBit v = true
      · rw [if_pos hbt]
        refine ev_neg (by decide) ?_
        have stepOk : before l i < (v : Int) → Ev (fun k => feed_Isolates.l0 k (st : Int) (sec : Int) l (Go.bits .andNot .i64 (left : Int) (shl .i64 1 (v : Int))) l (l.length : Int) ((i + 1 : Nat) : Int) (n : Int) sw fe (n : Int) sw fe)
            (if chk sw.length st (before l i) ((v : Int) :: l.drop (i + 1)) = true then (deadB sw (minus left ((v : Int) :: l.drop (i + 1))) n fe sec, 0) else (false, 0)) := by
          intro hlt2
          have hbl : left.testBit v = true := by rw [hb v hlt2]; exact hbt
          have hpl := pow_le_of hbl
          have hps : 0 < 2 ^ v := Nat.pow_pos (by decide)
          rw [sub_pow (by omega) (by omega) hbl]
          have e : chk sw.length st (before l i) ((v : Int) :: l.drop (i + 1)) = chk sw.length st (before l (i + 1)) (l.drop (i + 1)) := by
            rw [en, chk, decide_eq_true hr, Int.toNat_natCast, hbt, decide_eq_true hlt2]; rfl
          have e2 : minus left ((v : Int) :: l.drop (i + 1)) = minus (left - 2 ^ v) (l.drop (i + 1)) := by rw [minus, Int.toNat_natCast]
          rw [e, e2]
          refine ih (i + 1) (left - 2 ^ v) (by omega) (by omega) (fun j hj => ?_)
          rw [en] at hj
          rw [sub_bit (by omega) (and_pow hbl), hb j (by omega), Nat.testBit_two_pow]
          have : v ≠ j := by omega
          simp [this]
        have bad : ¬ before l i < (v : Int) → chk sw.length st (before l i) ((v : Int) :: l.drop (i + 1)) = false := fun hn => by
          rw [chk, decide_eq_false hn, Bool.and_false, Bool.false_and]
        by_cases hi0 : (i : Int) > 0
        · refine ev_pos hi0 ?_
          have ei : wrap64 ((i : Int) - 1) = ((i - 1 : Nat) : Int) := by rw [wrap_id (by omega) (by omega)]; omega
          have eb : before l i = rd l ((i - 1 : Nat) : Int) := by unfold before; rw [if_neg (by omega)]
          rw [ei]
          refine ev_pos (by omega) (ev_pos (by omega) ?_)
          by_cases hlt2 : before l i < (v : Int)
          · exact ev_neg (by omega) (stepOk hlt2)
          · refine ev_pos (by omega) (ev_const (congrArg some ?_))
            rw [bad hlt2]; rfl
        · have hlt2 : before l i < (v : Int) := by unfold before; rw [if_pos (by omega)]; omega
          exact ev_neg hi0 (stepOk hlt2)
      · rw [if_neg hbt]
        refine ev_pos rfl (ev_const (congrArg some ?_))
        rw [if_neg]
        rw [chk, Int.toNat_natCast]
        simp [hbt]
    · refine ev_neg (by simp; omega) (ev_const (congrArg some ?_))
      rw [if_neg]
      rw [chk, decide_eq_false hr]
      simp
theorem riso_l1 : ∀ (d i left : Nat), i + d = l.length → left < 2 ^ sw.length → (∀ j : Nat, before l i < (j : Int) → left.testBit j = st.testBit j) → chk sw.length st (before l i) (l.drop i) = true →
    Ev (fun k => dropperref05_Isolates.l1 k (left : Int) (sec : Int) l (i : Int) (n : Int) sw fe) (deadB sw (minus left (l.drop i)) n fe sec, 0) := by
  have hst_ := hst
  have hp := pow_le10 h
  have hlen := h.2.2.1
  intro d
  induction d with
  | zero =>
    intro i left hi hlt hb hc
    obtain rfl : i = l.length := by omega
    rw [List.drop_length]
    refine Ev.step (fun k => by rw [dropperref05_Isolates.l1]) ?_
    have hml := marks_len h hlt
    exact ev_neg (by omega) (Ev.bind (rlive_val h hlt) (ev_pos (by omega) (ev_pos (by rw [hml]; omega) (Ev.now _))))
  | succ d ih =>
    intro i left hi hlt hb hc
    have hil : i < l.length := by omega
    have en : before l (i + 1) = l[i] := by unfold before; rw [if_neg (by omega), Nat.add_sub_cancel, rd_get hil]
    rw [drop_cons hil] at hc ⊢
    have hc2 := (chk_iff _ _ _ _).1 hc
    obtain ⟨q1, q2, q3, q4⟩ := hc2.1 _ (List.mem_cons_self ..)
    obtain ⟨v, hv⟩ := Int.eq_ofNat_of_zero_le q1
    rw [hv] at hc q1 q2 q3 q4 en ⊢
    rw [Int.toNat_natCast] at q3
    have hbl : left.testBit v = true := by rw [hb v q4]; exact q3
    have hpl := pow_le_of hbl
    have hps : 0 < 2 ^ v := Nat.pow_pos (by decide)
    refine Ev.step (fun k => by rw [dropperref05_Isolates.l1]) ?_
    rw [rd_get hil, hv, wrap_succ i (by omega), shl_one v (by omega), wrap_id (x := (left : Int) - ((2 ^ v : Nat) : Int)) (by omega) (by omega), show (left : Int) - ((2 ^ v : Nat) : Int) = ((left - 2 ^ v : Nat) : Int) by omega]
    have e2 : minus left ((v : Int) :: l.drop (i + 1)) = minus (left - 2 ^ v) (l.drop (i + 1)) := by rw [minus, Int.toNat_natCast]
    rw [e2]
    refine ev_pos (by omega) (ev_pos (by omega) (ev_pos (by omega) (ih (i + 1) (left - 2 ^ v) (by omega) (by omega) (fun j hj => ?_) ?_)))
    · rw [en] at hj
      rw [sub_bit (by omega) (and_pow hbl), hb j (by omega), Nat.testBit_two_pow]
      have : v ≠ j := by omega
      simp [this]
    · rw [en]
      rw [chk] at hc
      simp only [Bool.and_eq_true] at hc
      exact hc.2
theorem riso_l0 (r : Bool × Int) (hgood : chk sw.length st (-1) l = true → Ev (fun k => dropperref05_Isolates.l1 k (st : Int) (sec : Int) l 0 (n : Int) sw fe) r) (hbad : chk sw.length st (-1) l = false → r = (false, 0)) :
    ∀ (d i : Nat), i + d = l.length → chk sw.length st (before l i) (l.drop i) = chk sw.length st (-1) l →
    Ev (fun k => dropperref05_Isolates.l0 k (st : Int) (sec : Int) l (i : Int) (n : Int) sw fe) r := by
  have hsec_ := hsec
  have hp := pow_le10 h
  have hlen := h.2.2.1
  intro d
  induction d with
  | zero =>
    intro i hi hc
    obtain rfl : i = l.length := by omega
    rw [List.drop_length] at hc
    refine Ev.step (fun k => by rw [dropperref05_Isolates.l0]) ?_
    exact ev_neg (by omega) (hgood hc.symm)
  | succ d ih =>
    intro i hi hc
    have hil : i < l.length := by omega
    have en : before l (i + 1) = l[i] := by unfold before; rw [if_neg (by omega), Nat.add_sub_cancel, rd_get hil]
    rw [drop_cons hil] at hc
    refine Ev.step (fun k => by rw [dropperref05_Isolates.l0]) ?_
    rw [rd_get hil, wrap_succ i (by omega)]
    refine ev_pos (by omega) (ev_pos (by omega) ?_)
    have bad : chk sw.length st (before l i) (l[i] :: l.drop (i + 1)) = false → Ev (fun _ => some ((false, 0) : Bool × Int)) r := fun hf => by
      rw [hbad (by rw [← hc]; exact hf)]; exact Ev.now _
    by_cases h0 : l[i] < 0
    · exact ev_pos h0 (bad (by rw [chk, decide_eq_false (by omega)]; simp))
    refine ev_neg h0 ?_
    by_cases h1 : l[i] ≥ (sw.length : Int)
    · exact ev_pos h1 (bad (by rw [chk, decide_eq_false (by omega)]; simp))
    refine ev_neg h1 ?_
    obtain ⟨v, hv⟩ := Int.eq_ofNat_of_zero_le (show 0 ≤ l[i] by omega)
    rw [hv] at hc bad h0 h1 en ⊢
    rw [closed_f (by omega) (by omega)]
    refine ev_some ?_
    by_cases hbt : st.testBit v = true
    · refine ev_pos hbt ?_
      have ok : before l i < (v : Int) → chk sw.length st (before l (i + 1)) (l.drop (i + 1)) = chk sw.length st (-1) l := fun hlt2 => by
        rw [← hc, en, chk, decide_eq_true (by omega), Int.toNat_natCast, hbt, decide_eq_true hlt2]; rfl
      by_cases hi0 : (i : Int) > 0
      · refine ev_pos hi0 ?_
        have ei : wrap64 ((i : Int) - 1) = ((i - 1 : Nat) : Int) := by rw [wrap_id (by omega) (by omega)]; omega
        have eb : before l i = rd l ((i - 1 : Nat) : Int) := by unfold before; rw [if_neg (by omega)]
        rw [ei]
        refine ev_pos (by omega) (ev_pos (by omega) ?_)
        by_cases hlt2 : before l i < (v : Int)
        · exact ev_neg (by omega) (ih (i + 1) (by omega) (ok hlt2))
        · exact ev_pos (by omega) (bad (by rw [chk, decide_eq_false hlt2, Bool.and_false, Bool.false_and]))
      · have hlt2 : before l i < (v : Int) := by unfold before; rw [if_pos (by omega)]; omega
        exact ev_neg hi0 (ih (i + 1) (by omega) (ok hlt2))
    · exact ev_neg hbt (bad (by rw [chk, Int.toNat_natCast]; simp [hbt]))
/-- what Isolates says -/
noncomputable def isoR (sw : List S69) (fe : List S71) (n st sec : Nat) (l : List Int) : Bool := chk sw.length st (-1) l && deadB sw (minus st l) n fe sec
theorem iso_val : Ev (fun k => feed_Isolates.l0 k (st : Int) (sec : Int) l (st : Int) l (l.length : Int) 0 (n : Int) sw fe (n : Int) sw fe) (isoR sw fe n st sec l, 0) := by
  have := iso_l0 h hst hsec l hl l.length 0 st (by omega) hst (fun j _ => rfl)
  rw [List.drop_zero] at this
  unfold isoR
  have e : before l 0 = -1 := rfl
  rw [e] at this
  cases hc : chk sw.length st (-1) l with
  | true => rw [hc, if_pos rfl] at this; exact this
  | false => rw [hc, if_neg (by simp)] at this; exact this
theorem riso_val : Ev (fun k => dropperref05_Isolates.l0 k (st : Int) (sec : Int) l 0 (n : Int) sw fe) (isoR sw fe n st sec l, 0) := by
  refine riso_l0 h hst hsec l hl (isoR sw fe n st sec l, 0) (fun hc => ?_) (fun hc => by unfold isoR; rw [hc]; rfl) l.length 0 (by omega) (by rw [List.drop_zero]; rfl)
  have := riso_l1 h hst hsec l hl l.length 0 st (by omega) hst (fun j _ => rfl) (by rw [List.drop_zero]; exact hc)
  rw [List.drop_zero] at this
  unfold isoR
  rw [hc]
  exact this
end
/-! the error of a grid, a state and a section -/
noncomputable def errS (N : Int) (sw : List S69) (fe : List S71) (st sec : Int) : Int := if errG N sw fe st = 0 then (if 0 ≤ sec ∧ sec < N then 0 else 2) else errG N sw fe st
theorem bad_iff {N : Int} (h1 : 1 ≤ N) (h2 : N ≤ 8) (x : Int) : feed_grid_section.bad N x = !decide (0 ≤ x ∧ x < N) := by
  unfold feed_grid_section.bad
  rw [wrap_id (by omega) (by omega), Bool.eq_iff_iff]
  simp; omega
theorem asked_val (N : Int) (sw : List S69) (fe : List S71) (st sec : Int) : feed_asked.f N sw fe st sec = some (N, errS N sw fe st sec) := by
  unfold feed_asked.f errS
  rw [open_g]
  by_cases h : errG N sw fe st = 0
  · have hg := (errG_zero.1 h).1
    simp only [Option.bind_some]
    rw [if_pos h, if_pos h]
    unfold feed_grid_section.f
    simp only [Option.bind_some, List.any_cons, List.any_nil, Bool.or_false]
    rw [bad_iff hg.1 hg.2.1]
    by_cases h2 : 0 ≤ sec ∧ sec < N
    · rw [if_pos h2, decide_eq_true h2]; rfl
    · rw [if_neg h2, decide_eq_false h2]; rfl
  · simp only [Option.bind_some]
    rw [if_neg h, if_neg h]
theorem why_val (N : Int) (sw : List S69) (fe : List S71) (hl : sw.length ≤ 20) (st sec : Int) : Ev (fun k => dropperref05_Why.f k N sw fe st sec) (errS N sw fe st sec) := by
  unfold dropperref05_Why.f errS
  refine Ev.bind (rasked_ev N sw fe hl st) ?_
  by_cases h : errG N sw fe st = 0
  · refine ev_pos h ?_
    rw [if_pos h, section_f]
    by_cases h2 : 0 ≤ sec ∧ sec < N
    · rw [if_pos h2]; exact ev_some (ev_pos (decide_eq_true h2) (Ev.now _))
    · rw [if_neg h2]; exact ev_some (ev_neg (by simpa using h2) (Ev.now _))
  · refine ev_neg h ?_
    rw [if_neg h]
    exact Ev.now _
theorem errS_nat {N : Int} {sw : List S69} {fe : List S71} {st sec : Int} (h : errS N sw fe st sec = 0) :
    ∃ n s c : Nat, N = (n : Int) ∧ st = (s : Int) ∧ sec = (c : Int) ∧ GridOk (n : Int) sw fe ∧ s < 2 ^ sw.length ∧ c < n := by
  unfold errS at h
  by_cases hg : errG N sw fe st = 0
  · rw [if_pos hg] at h
    by_cases h2 : 0 ≤ sec ∧ sec < N
    · obtain ⟨n, s, rfl, rfl, a, b⟩ := errG_nat hg
      obtain ⟨c, rfl⟩ := Int.eq_ofNat_of_zero_le h2.1
      exact ⟨n, s, c, rfl, rfl, rfl, a, b, by omega⟩
    · rw [if_neg h2] at h; cases h
  · rw [if_neg hg] at h; exact absurd h hg
noncomputable def isolatesR (N : Int) (sw : List S69) (fe : List S71) (st sec : Int) (l : List Int) : Bool := if errS N sw fe st sec = 0 then isoR sw fe N.toNat st.toNat sec.toNat l else false
theorem Isolates_val (N : Int) (sw : List S69) (fe : List S71) (st sec : Int) (l : List Int) (hl : l.length ≤ 4000000000000000000) : Ev (fun k => feed_Isolates.f k N sw fe st sec l) (isolatesR N sw fe st sec l, errS N sw fe st sec) := by
  unfold feed_Isolates.f isolatesR
  rw [asked_val]
  by_cases h : errS N sw fe st sec = 0
  · rw [if_pos h, h]
    obtain ⟨n, s, c, rfl, rfl, rfl, hg, hs, hc⟩ := errS_nat h
    rw [Int.toNat_natCast, Int.toNat_natCast, Int.toNat_natCast]
    exact ev_some (ev_pos rfl (iso_val hg hs hc l hl))
  · rw [if_neg h]
    exact ev_some (ev_neg h (Ev.now _))
theorem rIsolates_val (N : Int) (sw : List S69) (fe : List S71) (hsl : sw.length ≤ 20) (st sec : Int) (l : List Int) (hl : l.length ≤ 4000000000000000000) : Ev (fun k => dropperref05_Isolates.f k N sw fe st sec l) (isolatesR N sw fe st sec l, errS N sw fe st sec) := by
  unfold dropperref05_Isolates.f isolatesR
  refine Ev.bind (why_val N sw fe hsl st sec) ?_
  by_cases h : errS N sw fe st sec = 0
  · rw [if_pos h, h]
    obtain ⟨n, s, c, rfl, rfl, rfl, hg, hs, hc⟩ := errS_nat h
    rw [Int.toNat_natCast, Int.toNat_natCast, Int.toNat_natCast]
    exact ev_pos rfl (riso_val hg hs hc l hl)
  · rw [if_neg h]
    exact ev_neg h (Ev.now _)
end Go.Proofs.YtoilhnmdemnknaaDoor.Plain

/- The fewest switches that isolate a section. -/
namespace Go.Proofs.YtoilhnmdemnknaaDoor.Plain
set_option linter.unusedVariables false
set_option linter.unusedSimpArgs false
open Go.RowKit Go.Proofs.YtoilhnmdemnknaaDoor.XFeed Go.Proofs.YtoilhnmdemnknaaDoorW.PrintWords Go.Proofs.YtoilhnmdemnknaaDoorW.PrintLast Go.Proofs.YtoilhnmdemnknaaDoorW.PrintMore
open Classical

/-! numbers below 1024 as sets -/
def pc (m : Nat) : Nat := ((List.range 10).filter m.testBit).length
def bitsOf (m : Nat) : List Int := ((List.range 10).filter m.testBit).map Int.ofNat
theorem ones1024 : ∀ m : Nat, m < 1024 → bits_OnesCount.f (m : Int) = some (pc m : Int) := by decide +kernel
theorem list1024 : ∀ m : Nat, m < 1024 → feed_list.f 12 (m : Int) = some (bitsOf m) := by decide +kernel
theorem list_val {m : Nat} (h : m < 1024) : Ev (fun k => feed_list.f k (m : Int)) (bitsOf m) := Ev.of (fun k => feed_list.mono _ k) (list1024 m h)
theorem bitsOf_len (m : Nat) : (bitsOf m).length = pc m := by simp [bitsOf, pc]
theorem pc_le (m : Nat) : pc m ≤ 10 := by
  unfold pc
  exact Nat.le_trans (List.length_filter_le _ _) (by simp)
theorem bitsOf_sum : ∀ m : Nat, m < 1024 → ((bitsOf m).map fun v => 2 ^ v.toNat).sum = m := by decide +kernel
theorem bitsOf_pair (m : Nat) : (bitsOf m).Pairwise (· < ·) := by
  unfold bitsOf
  rw [List.pairwise_map]
  refine List.Pairwise.imp (fun h => ?_) ((List.pairwise_lt_range (n := 10)).filter _)
  exact Int.ofNat_lt.2 h
theorem minus_eq (l : List Int) : ∀ left, minus left l = left - (l.map fun v => 2 ^ v.toNat).sum := by
  induction l with
  | nil => intro left; simp [minus]
  | cons v t ih => intro left; rw [minus, ih, List.map_cons, List.sum_cons, Nat.sub_sub]
theorem minus_bits {st m : Nat} (h : m < 1024) : minus st (bitsOf m) = st - m := by rw [minus_eq, bitsOf_sum m h]
theorem sub_and {m st : Nat} (h : m ^^^ (m &&& st) = 0) : st &&& m = m := by
  apply Nat.eq_of_testBit_eq
  intro j
  have := congrArg (fun z => z.testBit j) h
  simp only [Nat.testBit_xor, Nat.testBit_and, Nat.zero_testBit] at this
  rw [Nat.testBit_and]
  cases h1 : m.testBit j <;> cases h2 : st.testBit j <;> simp_all
theorem and_sub {m st : Nat} (h : st &&& m = m) : m ^^^ (m &&& st) = 0 := by
  rw [Nat.and_comm, h, Nat.xor_self]
theorem chk_bits {len st m : Nat} (hm : m < 2 ^ len) (hl : len ≤ 10) (h : st &&& m = m) : chk len st (-1) (bitsOf m) = true := by
  rw [chk_iff]
  refine ⟨fun v hv => ?_, bitsOf_pair m⟩
  unfold bitsOf at hv
  obtain ⟨i, hi, rfl⟩ := List.mem_map.1 hv
  obtain ⟨h1, h2⟩ := List.mem_filter.1 hi
  have hb := congrArg (fun z => z.testBit i) h
  simp only [Nat.testBit_and, h2, Bool.and_true] at hb
  have hil : i < len := by
    apply Nat.lt_of_not_le
    intro hle
    have := Nat.testBit_lt_two_pow (Nat.lt_of_lt_of_le hm (Nat.pow_le_pow_right (by decide) hle))
    rw [this] at h2; cases h2
  show 0 ≤ (i : Int) ∧ (i : Int) < (len : Int) ∧ st.testBit (i : Int).toNat = true ∧ -1 < (i : Int)
  refine ⟨by omega, by omega, by rw [Int.toNat_natCast]; exact hb, by omega⟩

section
variable {n : Nat} {sw : List S69} {fe : List S71} (h : GridOk (n : Int) sw fe) {st : Nat} (hst : st < 2 ^ sw.length) {sec : Nat} (hsec : sec < n)
/-- switches that, opened, make a section dead -/
def Iso (sw : List S69) (fe : List S71) (n st sec m : Nat) : Prop := st &&& m = m ∧ deadB sw (st - m) n fe sec = true
/-- the fewest -/
def Least (sw : List S69) (fe : List S71) (n st sec i b : Nat) : Prop := Iso sw fe n st sec b ∧ ∀ m, m < i → Iso sw fe n st sec m → pc b ≤ pc m
include h hst hsec
theorem least_l0 : ∀ (d i b : Nat), i + d = 2 ^ sw.length → b < 2 ^ sw.length → Least sw fe n st sec i b →
    ∃ r, Ev (fun k => feed_grid_least.l0 k (st : Int) (sec : Int) (b : Int) ((2 ^ sw.length : Nat) : Int) (i : Int) (n : Int) sw fe) ((r : Nat) : Int) ∧ r < 2 ^ sw.length ∧ Least sw fe n st sec (2 ^ sw.length) r := by
  have hp := pow_le10 h
  have hlen := h.2.2.1
  intro d
  induction d with
  | zero =>
    intro i b hi hb hL
    obtain rfl : i = 2 ^ sw.length := by omega
    refine ⟨b, ?_, hb, hL⟩
    refine Ev.step (fun k => by rw [feed_grid_least.l0]) ?_
    exact ev_neg (by omega) (Ev.now _)
  | succ d ih =>
    intro i b hi hb hL
    have wu : ∀ x : Nat, x < 2 ^ sw.length → IntKind.u64.wrap (x : Int) = (x : Int) := fun x hx => wrapU (by omega)
    have hand : Go.bits .andNot .i64 (i : Int) (st : Int) = ((i ^^^ (i &&& st) : Nat) : Int) := andNot_i (by omega) (by omega)
    have skip : (Iso sw fe n st sec i → pc b ≤ pc i) → Least sw fe n st sec (i + 1) b := fun hs => ⟨hL.1, fun m hm hi2 => by
      by_cases hmi : m < i
      · exact hL.2 m hmi hi2
      · obtain rfl : m = i := by omega
        exact hs hi2⟩
    by_cases hz : i ^^^ (i &&& st) = 0
    · have hsub := sub_and hz
      have hdl : st - i < 2 ^ sw.length := by omega
      by_cases hc : pc i < pc b
      · have hdead := dead_val h hdl hsec
        have e2 : Go.bits .andNot .i64 (st : Int) (i : Int) = ((st - i : Nat) : Int) := by rw [andNot_i (by omega) (by omega), hsub, xor_sub (by omega) hsub]
        cases hd : deadB sw (st - i) n fe sec with
        | true =>
          obtain ⟨r, g1, g2⟩ := ih (i + 1) i (by omega) (by omega) ⟨⟨hsub, hd⟩, fun m hm hi2 => by
            by_cases hmi : m < i
            · have := hL.2 m hmi hi2; omega
            · obtain rfl : m = i := by omega
              exact Nat.le_refl _⟩
          refine ⟨r, ?_, g2⟩
          refine Ev.step (fun k => by rw [feed_grid_least.l0]) ?_
          rw [hand, hz, wu i (by omega), wu b hb, ones1024 i (by omega), ones1024 b (by omega), e2, wrap_succ i (by omega)]
          exact ev_pos (by omega) (ev_pos rfl (ev_some (ev_some (ev_pos (by omega) (Ev.bind hdead (ev_pos hd g1))))))
        | false =>
          obtain ⟨r, g1, g2⟩ := ih (i + 1) b (by omega) hb (skip fun hI => by rw [hI.2] at hd; cases hd)
          refine ⟨r, ?_, g2⟩
          refine Ev.step (fun k => by rw [feed_grid_least.l0]) ?_
          rw [hand, hz, wu i (by omega), wu b hb, ones1024 i (by omega), ones1024 b (by omega), e2, wrap_succ i (by omega)]
          exact ev_pos (by omega) (ev_pos rfl (ev_some (ev_some (ev_pos (by omega) (Ev.bind hdead (ev_neg (by rw [hd]; simp) g1))))))
      · obtain ⟨r, g1, g2⟩ := ih (i + 1) b (by omega) hb (skip fun hI => by omega)
        refine ⟨r, ?_, g2⟩
        refine Ev.step (fun k => by rw [feed_grid_least.l0]) ?_
        rw [hand, hz, wu i (by omega), wu b hb, ones1024 i (by omega), ones1024 b (by omega), wrap_succ i (by omega)]
        exact ev_pos (by omega) (ev_pos rfl (ev_some (ev_some (ev_neg (by omega) g1))))
    · obtain ⟨r, g1, g2⟩ := ih (i + 1) b (by omega) hb (skip fun hI => absurd (and_sub hI.1) hz)
      refine ⟨r, ?_, g2⟩
      refine Ev.step (fun k => by rw [feed_grid_least.l0]) ?_
      rw [hand, wrap_succ i (by omega)]
      exact ev_pos (by omega) (ev_neg (by omega) g1)
/-- without a feeder at a section, no closed switch at all makes it dead -/
theorem iso_all (hat : ∀ f ∈ fe, f.f0 ≠ (sec : Int)) : Iso sw fe n st sec st := by
  have hst_ := hst
  have hp := pow_le10 h
  refine ⟨Nat.and_self _, ?_⟩
  rw [Nat.sub_self]
  refine (dead_iff h (Nat.pow_pos (by decide)) hsec).2 (fun f hf hc => ?_)
  have hf0 := (h.fe f hf).1
  have : ∀ a b, Conn sw 0 a b → a = b := by
    intro a b hab
    induction hab with
    | refl => rfl
    | step _ e _ => obtain ⟨i, hi, hb, _⟩ := e; simp at hb
  have := this _ _ hc
  have := hat f hf
  omega
theorem least_val (hat : ∀ f ∈ fe, f.f0 ≠ (sec : Int)) : ∃ r, Ev (fun k => feed_grid_least.f k (n : Int) sw fe (st : Int) (sec : Int)) ((r : Nat) : Int) ∧ r < 2 ^ sw.length ∧ Least sw fe n st sec (2 ^ sw.length) r := by
  obtain ⟨r, g1, g2⟩ := least_l0 h hst hsec (2 ^ sw.length) 0 st (by omega) hst ⟨iso_all h hst hsec hat, fun m hm => by omega⟩
  refine ⟨r, ?_, g2⟩
  unfold feed_grid_least.f
  rw [all_f _ _ _ h.2.2.1]
  exact ev_some g1
/-- how many bits of a number stand below an index -/
def pcTo (m i : Nat) : Nat := ((List.range i).filter m.testBit).length
omit h hst hsec in
theorem pcTo_succ (m i : Nat) : pcTo m (i + 1) = pcTo m i + if m.testBit i = true then 1 else 0 := by
  unfold pcTo
  rw [List.range_succ, List.filter_append, List.length_append]
  congr 1
  by_cases hb : m.testBit i = true <;> simp [hb]
omit h hst hsec in
theorem pcTo_le (m i : Nat) : pcTo m i ≤ i := by
  unfold pcTo
  exact Nat.le_trans (List.length_filter_le _ _) (by simp)
omit h hst hsec in
theorem pcTo_all {m len : Nat} (hm : m < 2 ^ len) : ∀ d, pcTo m (len + d) = pcTo m len := by
  intro d
  induction d with
  | zero => rfl
  | succ d ih =>
    rw [← Nat.add_assoc, pcTo_succ, ih, Nat.testBit_lt_two_pow (Nat.lt_of_lt_of_le hm (Nat.pow_le_pow_right (by decide) (by omega)))]
    simp
omit h hst hsec in
theorem pcTo_len {m len : Nat} (hm : m < 2 ^ len) (hl : len ≤ 10) : pcTo m len = pc m := by
  have := pcTo_all hm (10 - len)
  rw [show len + (10 - len) = 10 by omega] at this
  rw [← this]; rfl
theorem fewest_l1 (best s : Nat) (hs : s < 2 ^ sw.length) (r : Int) (hend : Ev (fun k => dropperref05_Fewest.l0 k (st : Int) (sec : Int) (mn (best : Int) (pc s : Int)) ((s + 1 : Nat) : Int) (n : Int) sw fe) r) :
    ∀ (d i : Nat), i + d = sw.length → Ev (fun k => dropperref05_Fewest.l1 k (st : Int) (sec : Int) (best : Int) (s : Int) (pcTo s i : Int) (i : Int) (n : Int) sw fe) r := by
  have hp := pow_le10 h
  have hlen := h.2.2.1
  have hst_ := hst
  have hsec_ := hsec
  intro d
  induction d with
  | zero =>
    intro i hi
    obtain rfl : i = sw.length := by omega
    refine Ev.step (fun k => by rw [dropperref05_Fewest.l1]) ?_
    rw [pcTo_len hs hlen, wrap_succ s (by omega)]
    exact ev_neg (by omega) hend
  | succ d ih =>
    intro i hi
    have hle := pcTo_le s i
    have := ih (i + 1) (by omega)
    rw [pcTo_succ] at this
    refine Ev.step (fun k => by rw [dropperref05_Fewest.l1]) ?_
    rw [closed_f (by omega) (by omega), wrap_succ i (by omega)]
    by_cases hb : s.testBit i = true
    · rw [if_pos hb] at this
      rw [wrap_succ (pcTo s i) (by omega)]
      exact ev_pos (by omega) (ev_some (ev_pos hb this))
    · rw [if_neg hb] at this
      exact ev_pos (by omega) (ev_some (ev_neg hb this))
theorem fewest_l0 (b : Nat) (hL : Least sw fe n st sec (2 ^ sw.length) b) (hb : b < 2 ^ sw.length) : ∀ (d s best : Nat), s + d = 2 ^ sw.length → best ≤ 10 → pc b ≤ best → (b < s → best = pc b) →
    Ev (fun k => dropperref05_Fewest.l0 k (st : Int) (sec : Int) (best : Int) (s : Int) (n : Int) sw fe) (pc b : Int) := by
  have hp := pow_le10 h
  have hlen := h.2.2.1
  intro d
  induction d with
  | zero =>
    intro s best hs h10 h1 h2
    obtain rfl : s = 2 ^ sw.length := by omega
    refine Ev.step (fun k => by rw [dropperref05_Fewest.l0]) ?_
    rw [shl_one _ (by omega), h2 hb]
    exact ev_neg (by omega) (Ev.now _)
  | succ d ih =>
    intro s best hs h10 h1 h2
    have hand : Go.bits .and .i64 (s : Int) (st : Int) = ((s &&& st : Nat) : Int) := and_i (by omega) (by omega)
    have hpc := pc_le s
    have next : ¬ Iso sw fe n st sec s → Ev (fun k => dropperref05_Fewest.j1 k (st : Int) (sec : Int) (best : Int) (s : Int) true (n : Int) sw fe) (pc b : Int) := fun hn => by
      refine Ev.step (fun k => by rw [dropperref05_Fewest.j1]) ?_
      rw [wrap_succ s (by omega)]
      refine ev_pos rfl (ih (s + 1) best (by omega) h10 h1 (fun hbs => ?_))
      by_cases e : b = s
      · subst e; exact absurd hL.1 hn
      · exact h2 (by omega)
    refine Ev.step (fun k => by rw [dropperref05_Fewest.l0]) ?_
    rw [shl_one _ (by omega), hand]
    refine ev_pos (by omega) ?_
    by_cases hsub : st &&& s = s
    · have hle : s ≤ st := by rw [← hsub]; exact Nat.and_le_left
      have hdl : st - s < 2 ^ sw.length := by omega
      have hml := marks_len h hdl
      rw [wrap_id (x := (st : Int) - (s : Int)) (by omega) (by omega), show (st : Int) - (s : Int) = ((st - s : Nat) : Int) by omega]
      refine ev_pos (by rw [Nat.and_comm, hsub]) (Ev.bind (rlive_val h hdl) (ev_pos (by omega) (ev_pos (by rw [hml]; omega) ?_)))
      cases hd : deadB sw (st - s) n fe sec with
      | true =>
        have hI : Iso sw fe n st sec s := ⟨hsub, hd⟩
        have e : (rd (marks sw (st - s) n fe) (sec : Int) != 0) = false := by unfold deadB at hd; rw [bne, hd]; rfl
        rw [e]
        have hmin := hL.2 s (by omega) hI
        refine Ev.step (fun k => by rw [dropperref05_Fewest.j1]) (ev_neg (by simp) ?_)
        have := fewest_l1 h hst hsec best s (by omega) (pc b : Int) (by
          have em : mn (best : Int) (pc s : Int) = ((min best (pc s) : Nat) : Int) := by unfold mn; split <;> omega
          rw [em]
          exact ih (s + 1) (min best (pc s)) (by omega) (by omega) (by omega) (fun hbs => by
            by_cases e : b = s
            · subst e; omega
            · have := h2 (by omega); omega)) sw.length 0 (by omega)
        exact this
      | false =>
        have e : (rd (marks sw (st - s) n fe) (sec : Int) != 0) = true := by unfold deadB at hd; rw [bne, hd]; rfl
        rw [e]
        exact next (fun hI => by rw [hI.2] at hd; cases hd)
    · refine ev_neg (fun e => hsub ?_) (next fun hI => hsub hI.1)
      rw [Nat.and_comm]; omega
theorem fewest_val (b : Nat) (hL : Least sw fe n st sec (2 ^ sw.length) b) (hb : b < 2 ^ sw.length) : Ev (fun k => dropperref05_Fewest.f k (n : Int) sw fe (st : Int) (sec : Int)) (pc b : Int) := by
  unfold dropperref05_Fewest.f
  have hlen := h.2.2.1
  exact fewest_l0 h hst hsec b hL hb (2 ^ sw.length) 0 sw.length (by omega) (by omega) (by rw [← pcTo_len hb hlen]; exact pcTo_le _ _) (fun hx => by omega)
end
theorem at_l0 (N : Int) (sw : List S69) (fe : List S71) (hl : fe.length ≤ 100) (sec : Int) : ∀ (d i : Nat), i + d = fe.length → (∀ j (h : j < fe.length), j < i → fe[j].f0 ≠ sec) →
    Ev (fun k => dropperref05_At.l0 k sec (i : Int) N sw fe) (fe.any (feed_grid_atHome.p sec)) := by
  intro d
  induction d with
  | zero =>
    intro i hi hb
    refine Ev.step (fun k => by rw [dropperref05_At.l0]) ?_
    refine ev_neg (by omega) (ev_const (congrArg some ?_))
    symm
    rw [List.any_eq_false]
    intro f hf
    obtain ⟨j, hj, rfl⟩ := List.mem_iff_getElem.1 hf
    have := hb j hj (by omega)
    unfold feed_grid_atHome.p
    simpa using this
  | succ d ih =>
    intro i hi hb
    have hlt : i < fe.length := by omega
    refine Ev.step (fun k => by rw [dropperref05_At.l0]) ?_
    rw [rd_S71 fe i hlt, wrap_succ i (by omega)]
    refine ev_pos (by omega) (ev_pos (by omega) ?_)
    by_cases he : fe[i].f0 = sec
    · refine ev_pos he (ev_const (congrArg some ?_))
      symm
      rw [List.any_eq_true]
      exact ⟨_, List.getElem_mem hlt, by unfold feed_grid_atHome.p; simpa using he⟩
    · refine ev_neg he (ih (i + 1) (by omega) (fun j hj hji => ?_))
      by_cases hh : j < i
      · exact hb j hj hh
      · obtain rfl : j = i := by omega
        exact he
theorem at_val (N : Int) (sw : List S69) (fe : List S71) (hl : fe.length ≤ 100) (sec : Int) : Ev (fun k => dropperref05_At.f k N sw fe sec) (fe.any (feed_grid_atHome.p sec)) := by
  unfold dropperref05_At.f
  exact at_l0 N sw fe hl sec fe.length 0 (by omega) (fun j hj h0 => by omega)
theorem atHome_f (N : Int) (sw : List S69) (fe : List S71) (sec : Int) : feed_grid_atHome.f N sw fe sec = some (fe.any (feed_grid_atHome.p sec)) := rfl
theorem not_home {fe : List S71} {sec : Int} (h : fe.any (feed_grid_atHome.p sec) = false) : ∀ f ∈ fe, f.f0 ≠ sec := by
  rw [List.any_eq_false] at h
  intro f hf he
  exact h f hf (by unfold feed_grid_atHome.p; simpa using he)
end Go.Proofs.YtoilhnmdemnknaaDoor.Plain

namespace Go.Proofs.YtoilhnmdemnknaaDoor.Plain
open Go.RowKit Go.Proofs.YtoilhnmdemnknaaDoor.XFeed Go.Proofs.YtoilhnmdemnknaaDoorW.PrintWords Go.Proofs.YtoilhnmdemnknaaDoorW.PrintLast Go.Proofs.YtoilhnmdemnknaaDoorW.PrintMore
theorem first_at : dropperlaw05_First.f 200 = some true := by kernel_rfl
theorem first_ev : Ev (fun k => dropperlaw05_First.f k) true := Ev.of (dropperlaw05_First.mono) first_at
end Go.Proofs.YtoilhnmdemnknaaDoor.Plain

/- Which lists are isolations, and that Isolate returns one with the fewest switches, or why there is none: the program tries all sets of closed switches, and so does the document's answer. No condition but the statement's own. -/
namespace Go.Proofs.YtoilhnmdemnknaaDoor.Pure
set_option linter.unusedVariables false
set_option linter.unusedSimpArgs false
open Go.RowKit Go.Proofs.YtoilhnmdemnknaaDoor.XFeed Go.Proofs.YtoilhnmdemnknaaDoorW.PrintWords Go.Proofs.YtoilhnmdemnknaaDoorW.PrintLast Go.Proofs.YtoilhnmdemnknaaDoorW.PrintMore
open Go.Proofs.YtoilhnmdemnknaaDoor.Plain

theorem FeedIsolates : dropperlaw05_FeedIsolates.Pure := by
  intro N sw fe st sec l hN hsw hfe hst hsec hll
  refine Ev.rounds ?_
  unfold dropperlaw05_FeedIsolates.f
  rw [large_f]
  by_cases hl : 20 < sw.length ∨ 20 < fe.length ∨ 1100 < l.length
  · exact ev_some (ev_pos (decide_eq_true hl) (Ev.bind first_ev (Ev.now _)))
  refine ev_some (ev_neg (by simpa using hl) ?_)
  have hl1 : sw.length ≤ 20 := by omega
  refine Ev.bind (Isolates_val N sw fe st sec l (by omega)) (Ev.bind (rIsolates_val N sw fe hl1 st sec l (by omega)) ?_)
  refine ev_neg (by simp) ?_
  have e0 : ((isolatesR N sw fe st sec l, errS N sw fe st sec).2 != (isolatesR N sw fe st sec l, errS N sw fe st sec).2) = false := by simp
  rw [e0]
  refine Ev.step (fun k => by rw [dropperlaw05_FeedIsolates.j0]) (ev_neg (by simp) ?_)
  by_cases h : errS N sw fe st sec = 0
  · have hz := h
    obtain ⟨n, s, c, rfl, rfl, rfl, hg, hs, hc⟩ := errS_nat h
    cases hat : fe.any (feed_grid_atHome.p (c : Int)) with
    | true =>
      have hI : Ev (fun k => feed_Isolate.f k (n : Int) sw fe (s : Int) (c : Int)) ([], 5) := by
        unfold feed_Isolate.f
        rw [asked_val]
        refine ev_some (ev_pos hz ?_)
        rw [atHome_f, hat]
        exact ev_some (ev_pos rfl (Ev.now _))
      refine Ev.bind hI ?_
      · refine Ev.bind (why_val _ sw fe hl1 _ _) (ev_pos hz (Ev.bind (at_val _ sw fe (by omega) _) (ev_pos hat ?_)))
        exact ev_pos rfl (ev_pos rfl (Ev.bind first_ev (Ev.now _)))
    | false =>
      have hh := not_home hat
      have hp := pow_le10 hg
      obtain ⟨r, g1, g2, g3⟩ := least_val hg hs hc hh
      have hbl : (bitsOf r).length ≤ 10 := by rw [bitsOf_len]; exact pc_le r
      have hI : Ev (fun k => feed_Isolate.f k (n : Int) sw fe (s : Int) (c : Int)) (bitsOf r, 0) := by
        unfold feed_Isolate.f
        rw [asked_val]
        refine ev_some (ev_pos hz ?_)
        rw [atHome_f, hat]
        exact ev_some (ev_neg (by simp) (Ev.bind g1 (Ev.bind (list_val (by omega)) (Ev.now _))))
      refine Ev.bind hI ?_
      · have ei : isolatesR (n : Int) sw fe (s : Int) (c : Int) (bitsOf r) = true := by
          unfold isolatesR isoR
          rw [if_pos hz, Int.toNat_natCast, Int.toNat_natCast, Int.toNat_natCast, chk_bits g2 hg.2.2.1 g3.1.1, minus_bits (by omega), g3.1.2]; rfl
        have ri := rIsolates_val (n : Int) sw fe hl1 (s : Int) (c : Int) (bitsOf r) (by omega)
        rw [ei, hz] at ri
        refine Ev.bind (why_val _ sw fe hl1 _ _) (ev_pos hz (Ev.bind (at_val _ sw fe (by omega) _) (ev_neg (by rw [hat]; simp) (Ev.bind ri ?_))))
        refine ev_pos rfl (ev_pos rfl (ev_pos rfl (Ev.bind (fewest_val hg hs hc r g3 g2) ?_)))
        exact ev_pos (by show ((bitsOf r).length : Int) = _; rw [bitsOf_len]) (Ev.bind first_ev (Ev.now _))
  · have hI : Ev (fun k => feed_Isolate.f k N sw fe st sec) ([], errS N sw fe st sec) := by
      unfold feed_Isolate.f
      rw [asked_val]
      exact ev_some (ev_neg h (Ev.now _))
    refine Ev.bind hI ?_
    refine Ev.bind (why_val N sw fe hl1 st sec) (ev_neg h (ev_pos rfl (ev_pos rfl (Ev.bind first_ev (Ev.now _)))))
end Go.Proofs.YtoilhnmdemnknaaDoor.Pure

namespace Go.Proofs.YtoilhnmdemnknaaDoor.Open
open Go.RowKit Go.Proofs.YtoilhnmdemnknaaDoorW.PrintWords Go.Proofs.YtoilhnmdemnknaaDoorW.PrintLast Go.Proofs.YtoilhnmdemnknaaDoorW.PrintMore
set_option linter.unusedVariables false
set_option linter.unusedSimpArgs false
/-! What an argument of a type reads as, in the print's kinds. -/
def Opens {α : Type} (P : Program) (t : TypeId) (kd : Kd α) (G : α → Prop) : Prop :=
  ∀ (H : Type) (enc : TypeId × Value → H) (W : World) (fuel : Nat) (cs : List Value) (x : DataW H × List MemPlace), DataW.trod enc P W 0 (fun _ => true) true fuel t cs = some x → ∃ a, kd.K W a cs ∧ G a
section
variable {P : Program} {t e : TypeId} {α β : Type} {kd : Kd α} {G : α → Prop}
theorem opens_int {k : IntKind} (hu : P.underlying t = some (.int k)) : Opens P t (Kd.int k) (fun n => (Lit.int k n).wf = true) := by
  intro H enc W fuel cs x h
  obtain ⟨n, rfl, _, hw⟩ := DataW.trod_int hu h
  exact ⟨n, rfl, hw⟩
theorem exists_list {Q : Nat → α → Prop} : ∀ n, (∀ i, i < n → ∃ x, Q i x) → ∃ xs : List α, xs.length = n ∧ ∀ i x, xs[i]? = some x → Q i x := by
  intro n
  induction n with
  | zero => intro _; exact ⟨[], rfl, fun i x h => by simp at h⟩
  | succ n ih =>
    intro h
    obtain ⟨xs, hl, hq⟩ := ih (fun i hi => h i (by omega))
    obtain ⟨x, hx⟩ := h n (by omega)
    refine ⟨xs ++ [x], by simp [hl], fun i y hy => ?_⟩
    by_cases hi : i < n
    · rw [List.getElem?_append_left (by omega)] at hy
      exact hq i y hy
    · rw [List.getElem?_append_right (by omega)] at hy
      have : i - xs.length = 0 := by
        have := (List.getElem?_eq_some_iff.1 hy).1
        simp at this; omega
      rw [this] at hy
      have hin : i = n := by omega
      subst hin
      simp at hy
      subst hy
      exact hx
theorem add_add (a : Addr) (m n : Nat) : (a.add m).add n = a.add (m + n) := by
  unfold Addr.add
  by_cases h1 : m = 0
  · subst h1; simp
  · by_cases h2 : n = 0
    · subst h2; simp [h1]
    · have : ¬ m + n = 0 := by omega
      simp [h1, h2, this, Nat.add_assoc]
theorem opens_slice (hu : P.underlying t = some (.slice e)) (he : Opens P e kd G) (hc : P.cellsOf e = kd.sz) : Opens P t (Kd.slice e kd) (fun l => l.length ≤ 9223372036854775807 ∧ ∀ x ∈ l, G x) := by
  intro H enc W fuel cs x h
  rcases DataW.trod_slice hu h with ⟨rfl, _⟩ | ⟨a, len, cap, elems, rest, n, _, rfl, _, hb, hl, hm, hlen, hel, _, _⟩
  · exact ⟨[], ⟨none, 0, rfl, Nat.le_refl _, rfl, by simp, fun h => absurd h (by simp)⟩, by simp, fun x hx => by simp at hx⟩
  · have hx : ∀ i, i < len → ∃ y : α, (∃ c, c.length = kd.sz ∧ kd.K W y c ∧ ∀ j u, c[j]? = some u → W.cell? (a.add (i * kd.sz + j)) = some u) ∧ G y := by
      intro i hi
      have h1 := hel i hi
      rw [List.getElem?_eq_getElem (by omega)] at h1
      obtain ⟨c, hc1, hc2⟩ := Option.bind_eq_some_iff.1 h1
      obtain ⟨y, hk, hg⟩ := he H enc W n c _ hc2
      obtain ⟨_, hcl, hcell⟩ := World.cells?_some hc1
      refine ⟨y, ⟨c, kd.K_len hk, hk, fun j u hj => ?_⟩, hg⟩
      rw [hc] at hcell
      have := hcell j (by have := (List.getElem?_eq_some_iff.1 hj).1; have := kd.K_len hk; omega)
      rw [← add_add, this, hj]
    obtain ⟨xs, hxl, hxq⟩ := exists_list len hx
    have hmax : len ≤ 9223372036854775807 := by unfold maxLen at hm; omega
    refine ⟨xs, ⟨some a, cap, by rw [hxl], by omega, rfl, by omega, fun _ => ⟨a, rfl, fun j p hj => (hxq j p hj).1⟩⟩, by omega, fun y hy => ?_⟩
    obtain ⟨i, hi, rfl⟩ := List.mem_iff_getElem.1 hy
    exact (hxq i xs[i] (List.getElem?_eq_getElem hi)).2
/-- the fields from one on, that lies at a place -/
def OpensF (P : Program) (fs : List Field) (off : Nat) (kd : Kd α) (G : α → Prop) : Prop :=
  ∀ (H : Type) (enc : TypeId × Value → H) (W : World) (fuel : Nat) (cs : List Value) (xs : List (DataW H × List MemPlace)), xs.length = fs.length → cs.length = off + kd.sz →
    (∀ (i : Nat) (f : Field), fs[i]? = some f → DataW.trod enc P W 0 (fun _ => true) true fuel f.type ((cs.drop f.offset).take (P.cellsOf f.type)) = xs[i]?) → ∃ a, kd.K W a (cs.drop off) ∧ G a
theorem opensF_one {f : Field} {off : Nat} (ho : f.offset = off) (hc : P.cellsOf f.type = kd.sz) (h : Opens P f.type kd G) : OpensF P [f] off kd G := by
  intro H enc W fuel cs xs hl hcs hx
  have h0 := hx 0 f rfl
  rw [List.getElem?_eq_getElem (by rw [hl]; simp), ho, hc, List.take_of_length_le (by rw [List.length_drop]; omega)] at h0
  exact h H enc W fuel _ _ h0
theorem opensF_cons {f : Field} {fs : List Field} {off : Nat} {ka : Kd α} {kb : Kd β} {Ga : α → Prop} {Gb : β → Prop} (ho : f.offset = off) (hc : P.cellsOf f.type = ka.sz) (h : Opens P f.type ka Ga) (hr : OpensF P fs (off + ka.sz) kb Gb) :
    OpensF P (f :: fs) off (Kd.pair ka kb) (fun p => Ga p.1 ∧ Gb p.2) := by
  intro H enc W fuel cs xs hl hcs hx
  have hcs' : cs.length = off + (ka.sz + kb.sz) := hcs
  match xs, hl with
  | x0 :: xs', hl =>
    have h0 := hx 0 f rfl
    rw [ho, hc] at h0
    obtain ⟨a, ha, hga⟩ := h H enc W fuel _ x0 h0
    obtain ⟨b, hb, hgb⟩ := hr H enc W fuel cs xs' (by simpa using hl) (by omega) (fun i f' hf' => hx (i + 1) f' (by simpa using hf'))
    refine ⟨(a, b), ⟨_, _, ?_, ha, hb⟩, hga, hgb⟩
    rw [← List.drop_drop, List.take_append_drop]
theorem opens_struct {fs : Array Field} (hu : P.underlying t = some (.struct fs)) (hc : P.cellsOf t = kd.sz) (h : OpensF P fs.toList 0 kd G) : Opens P t kd G := by
  intro H enc W fuel cs x hx
  obtain ⟨xs, n, _, _, hl, hxl, hf⟩ := DataW.trod_struct hu hx
  obtain ⟨a, ha, hg⟩ := h H enc W n cs xs (by rw [hxl]; simp) (by omega) (fun i f hf' => hf i f (by simpa using hf'))
  exact ⟨a, ha, hg⟩
theorem opens_iso {f : β → α} (g : α → β) (hfg : ∀ y, f (g y) = y) (h : Opens P t kd G) : Opens P t (Kd.iso kd f) (fun b => G (f b)) := by
  intro H enc W fuel cs x hx
  obtain ⟨a, ha, hg⟩ := h H enc W fuel cs x hx
  exact ⟨g a, by show kd.K W (f (g a)) cs; rw [hfg]; exact ha, by show G (f (g a)); rw [hfg]; exact hg⟩
theorem agg_of {cs : Array Value} {l : List Value} (h : (Value.agg cs).cells.toList = l) : cs = l.toArray := by
  have h' : cs.toList = l := h
  rw [← h']
end
end Go.Proofs.YtoilhnmdemnknaaDoor.Open

/- From the rows' condition on the laid tables of math/bits to the table in the world. -/
namespace Go.Proofs.YtoilhnmdemnknaaDoor.Laid
open Go.ChangeShapes Go.WideShapes Go.ChangeAt Go.WideMaps Go.WideElems Go.RowKit Go.Proofs.YtoilhnmdemnknaaDoor

abbrev laid2 : List (String × DataW Unit) := [("math/bits.deBruijn32tab", Rows.laid_math_bits_deBruijn32tab), ("math/bits.deBruijn64tab", Rows.laid_math_bits_deBruijn64tab)]
theorem g64 : Tryd.prog.globalNamed "math/bits.deBruijn64tab" = some 1 := by kernel_rfl
theorem t64 : (Tryd.prog.globals[1]?).map (·.type) = some 142 := by kernel_rfl
theorem door_met (os : Os) (args : Array Value) : laidMetH Tryd.prog laid2 ((World.doorLaid Tryd.prog 4000 os).forCall (fun _ _ => 0) ⟨#[], args, []⟩).memory :=
  laidMetH_of_parts3 (fuel := 100) (laidMet_of_run' 100 (by kernel_rfl) (by kernel_rfl)) (by kernel_rfl) (by kernel_rfl)
theorem tabs_of {W : World} (h : laidMetH Tryd.prog laid2 W) : Tab.Tabs W := by
  rw [MakeChecks.laidMetH_plain _ _ _ (by kernel_rfl)] at h
  obtain ⟨ps, ⟨g0, t0, cs0, f0, p0, q0, hg0, ht0, hv0, hd0, ⟨g1, t1, cs1, f1, p1, q1, hg1, ht1, hv1, hd1, _, _⟩, _⟩, _, _⟩ := h
  obtain rfl := Option.some.inj (g64.symm.trans hg1)
  obtain rfl := Option.some.inj (t64.symm.trans ht1)
  obtain ⟨xs, m1, rfl, hx1, hlen, hn3, hel⟩ := DataW.trod_array Tryd.underlying142 hd1
  have hT : (Rows.laid_math_bits_deBruijn64tab : DataW Unit) = DataW.agg (Tab.tab64.map fun n => DataW.lit (.int .u8 n)) := rfl
  rw [hT] at hx1
  simp only [Prod.mk.injEq, DataW.agg.injEq] at hx1
  have c5 : Tryd.prog.cellsOf 5 = 1 := by kernel_rfl
  intro i hi
  have hix : i < xs.length := by omega
  have hlt : i < Tab.tab64.length := by show i < 64; exact hi
  have hi1 := hel i hi
  rw [List.getElem?_eq_getElem hix] at hi1
  obtain ⟨k, e1, e2, _⟩ := DataW.trod_int Tryd.underlying5 hi1
  have hk : (Tab.tab64.map fun n => (DataW.lit (.int .u8 n) : DataW Unit))[i]? = (xs.map fun x => x.1)[i]? := by rw [hx1.1]
  rw [List.getElem?_map, List.getElem?_map, List.getElem?_eq_getElem hix, List.getElem?_eq_getElem hlt, e2] at hk
  have hk2 : Tab.tab64[i] = k := by simpa using hk
  have hc := World.var?_cell hg1 hv1 i
  rw [hc, List.getD_eq_getElem?_getD, List.getElem?_eq_getElem hlt, hk2]
  rw [c5, Nat.mul_one] at e1
  have hd : cs1.toList[i]? = some (.int .u8 k) := by
    have h0 := congrArg (fun l => l[0]?) e1
    simpa [List.getElem?_take, List.getElem?_drop] using h0
  simpa using hd
end Go.Proofs.YtoilhnmdemnknaaDoor.Laid

-- Written by wip/xprint.py of this repo, over the kit's print.py: out of the translation; the oracles in it are by hand. Not trusted: Lean checks it.
namespace Go.Proofs.YtoilhnmdemnknaaDoor.feedIsolates
open Go.ChangeShapes Go.WideShapes Go.ChangeAt Go.RowKit Go.Proofs.YtoilhnmdemnknaaDoor.Open Go.Proofs.YtoilhnmdemnknaaDoor.XFeed Go.Proofs.YtoilhnmdemnknaaDoorW.PrintWords Go.Proofs.YtoilhnmdemnknaaDoorW.PrintLast Go.Proofs.YtoilhnmdemnknaaDoorW.PrintMore
open Go.ChangeMaps (open_string shut_string)
set_option linter.unusedVariables false
set_option linter.unusedSimpArgs false
theorem own : ownKnob Tryd.prog.godebug = none := by kernel_rfl
theorem laidOut : laidOutB Tryd.prog = true := by kernel_rfl
set_option maxRecDepth 100000 in
theorem lifted (os : Os) (started : os.Started) (H : Type) (enc : TypeId × Value → H) :
    ReturnsInHanded {} Tryd.checked os 5 .any (fun w args => (Rows.feedIsolatesSpec.pre enc Tryd.prog Tryd.f5 [] false w args ∧ laidMetH Tryd.prog Laid.laid2 w) ∧ sizedMet enc Tryd.prog Tryd.f5 (OpenSpec.ofChange Rows.feedIsolatesSpec) false w args) (Rows.feedIsolatesSpec.post enc Tryd.prog Tryd.f5 false true false false) := by
  refine returnsInHanded_of_change_and (C := Tryd.checked) (X := fun w _ => laidMetH Tryd.prog Laid.laid2 w) (fun _ _ _ hh h => h.of_heap hh) own started (by kernel_rfl) Tryd.func5
    (ChangeSpec.witness_shaped (enc := enc) (C := Tryd.checked) (os := os) (X := fun w _ => laidMetH Tryd.prog Laid.laid2 w) false (World.doorLaid Tryd.prog 4000 os) #[.agg #[.int .i64 0, .slice none 0 0, .slice none 0 0], .agg #[.int .i64 0, .int .i64 0], .slice none 0 0] 8 rfl (World.shaped_of_RefB (by kernel_rfl) (by kernel_rfl)) (by kernel_rfl) (by kernel_rfl) (by kernel_rfl) (Laid.door_met os _)) ?_
  intro W base args ds gs before hval0 hW hcnd hsz0 hL _
  have hval : ∀ (j : Nat) t v, Tryd.f5.params[j]? = some t → args[j]? = some v → Value.okWide Tryd.prog W .any base t v := hval0
  have hW' := hW
  obtain ⟨p, q, hA0, hV, rfl, hfz, hnd⟩ := hW
  have hA : DataW.TrodAll enc Tryd.prog W 0 (fun _ => true) true Tryd.f5.params.toList args.toList ds p := hA0
  rw [Tryd.params5] at hA hval
  obtain ⟨v0, vs0, d0, ds0, p0, q0, hargs, rfl, rfl, h0, r0⟩ := trodAll_cons hA
  obtain ⟨v1, vs1, d1, ds1, p1, q1, rfl, rfl, rfl, h1, r1⟩ := trodAll_cons r0
  obtain ⟨v2, vs2, d2, ds2, p2, q2, rfl, rfl, rfl, h2, r2⟩ := trodAll_cons r1
  obtain ⟨rfl, rfl, rfl⟩ := trodAll_nil r2
  obtain rfl : args = #[v0, v1, v2] := by cases args; simp_all
  obtain ⟨rfl, rfl⟩ := trodVars_none hV
  obtain ⟨cs0, rfl, hz0⟩ := okWide_struct Tryd.underlying25 (hval 0 25 v0 rfl rfl)
  have k0 := h0
  have lt0 : ∀ x ∈ p0, x.block < W.heap.size := by obtain ⟨m, hm⟩ := k0; exact DataW.trod_lt m _ _ _ hm
  obtain ⟨fuel0, hf0⟩ := h0
  obtain ⟨⟨u0_0, u0_1, u0_2⟩, hK0, hG0⟩ := (opens_struct Tryd.underlying25 (by kernel_rfl) (opensF_cons rfl (by kernel_rfl) (opens_int Tryd.underlying3) (opensF_cons rfl (by kernel_rfl) (opens_slice Tryd.underlying22 (opens_iso (f := fun x : S69 => (x.f0, x.f1)) (fun p => ⟨p.1, p.2⟩) (fun _ => rfl) (opens_struct Tryd.underlying69 (by kernel_rfl) (opensF_cons rfl (by kernel_rfl) (opens_int Tryd.underlying3) (opensF_one rfl (by kernel_rfl) (opens_int Tryd.underlying3))))) (by kernel_rfl)) (opensF_one rfl (by kernel_rfl) (opens_slice Tryd.underlying23 (opens_iso (f := fun x : S71 => (x.f0, x.f1)) (fun p => ⟨p.1, p.2⟩) (fun _ => rfl) (opens_struct Tryd.underlying71 (by kernel_rfl) (opensF_cons rfl (by kernel_rfl) (opens_int Tryd.underlying3) (opensF_one rfl (by kernel_rfl) (opens_int Tryd.underlying3))))) (by kernel_rfl)))))) H enc W fuel0 _ _ hf0
  obtain ⟨c0_0, r0_0, e0_0, hk0_0, c0_1, r0_1, e0_1, hk0_1, hk0_2⟩ := hK0
  obtain ⟨g0_0, g0_1, g0_2⟩ := hG0
  have hq0_0 := hk0_0
  obtain ⟨A0_1, q0_1, hq0_1, hc0_1, hr0_1⟩ := hk0_1
  obtain ⟨A0_2, q0_2, hq0_2, hc0_2, hr0_2⟩ := hk0_2
  have hq0_0' : c0_0 = _ := hq0_0
  have hq0_1' : c0_1 = _ := hq0_1
  obtain rfl : cs0 = #[.int .i64 u0_0, .slice A0_1 u0_1.length q0_1, .slice A0_2 u0_2.length q0_2] := by
    have h_ := agg_of (l := [.int .i64 u0_0, .slice A0_1 u0_1.length q0_1, .slice A0_2 u0_2.length q0_2]) (cs := cs0) (by rw [e0_0, hq0_0', e0_1, hq0_1', hq0_2]; rfl)
    exact h_
  obtain ⟨cs1, rfl, hz1⟩ := okWide_struct Tryd.underlying43 (hval 1 43 v1 rfl rfl)
  have k1 := h1
  have lt1 : ∀ x ∈ p1, x.block < W.heap.size := by obtain ⟨m, hm⟩ := k1; exact DataW.trod_lt m _ _ _ hm
  obtain ⟨fuel1, hf1⟩ := h1
  obtain ⟨⟨u1_0, u1_1⟩, hK1, hG1⟩ := (opens_struct Tryd.underlying43 (by kernel_rfl) (opensF_cons rfl (by kernel_rfl) (opens_int Tryd.underlying3) (opensF_one rfl (by kernel_rfl) (opens_int Tryd.underlying3)))) H enc W fuel1 _ _ hf1
  obtain ⟨c1_0, r1_0, e1_0, hk1_0, hk1_1⟩ := hK1
  obtain ⟨g1_0, g1_1⟩ := hG1
  have hq1_0 := hk1_0
  have hq1_1 := hk1_1
  have hq1_0' : c1_0 = _ := hq1_0
  obtain rfl : cs1 = #[.int .i64 u1_0, .int .i64 u1_1] := by
    have h_ := agg_of (l := [.int .i64 u1_0, .int .i64 u1_1]) (cs := cs1) (by rw [e1_0, hq1_0', hq1_1]; rfl)
    exact h_
  obtain ⟨b2, len2, cap2, rfl⟩ := okWide_slice Tryd.underlying28 (hval 2 28 v2 rfl rfl)
  have k2 := h2
  have lt2 : ∀ x ∈ p2, x.block < W.heap.size := by obtain ⟨m, hm⟩ := k2; exact DataW.trod_lt m _ _ _ hm
  obtain ⟨fuel2, hf2⟩ := h2
  obtain ⟨l2, ⟨A2, c2, hcs2, hc2, hr2⟩, hg2⟩ := (opens_slice Tryd.underlying28 (opens_int Tryd.underlying3) (by kernel_rfl)) H enc W fuel2 _ _ hf2
  simp [Value.cells] at hcs2
  obtain ⟨rfl, rfl, rfl⟩ := hcs2
  clear hA0 hval0 hsz0
  obtain ⟨k, h⟩ := Pure.FeedIsolates u0_0 u0_1 u0_2 u1_0 u1_1 l2 g0_0 g0_1 g0_2 g1_0 g1_1 hg2
  refine (dropperlaw05_FeedIsolates.calls k u0_0 _ _ u0_1 _ _ u0_2 u1_0 u1_1 _ _ l2 true W hr0_1 hc0_1 hr0_2 hc0_2 hr2 hc2 (Laid.tabs_of hL) h).mono fun e W' ⟨he, bel0⟩ => ?_
  have bel : Below W.heap.size W W' := bel0
  subst he
  exact ⟨_, rfl, _, _, _, [], _, [], hW', trodAll_mk1 (shut_bool Tryd.underlying4 _), (trodAll_cons_mk (Below.trod laidOut (by kernel_rfl) (of_decide_eq_true (by kernel_rfl)) k0 bel lt0) (trodAll_cons_mk (Below.trod laidOut (by kernel_rfl) (of_decide_eq_true (by kernel_rfl)) k1 bel lt1) (trodAll_cons_mk (Below.trod laidOut (by kernel_rfl) (of_decide_eq_true (by kernel_rfl)) k2 bel lt2) trodAll_mk0))), rfl, bel.frame _, fun h => by cases h⟩
theorem over : Rows.feedIsolatesRow.holds Tryd.pinned (OpenSpec.ofChange Rows.feedIsolatesSpec) :=
  OpenClaim.holds_of_wide 5 Tryd.f5 rfl rfl rfl rfl rfl rfl rfl ⟨rfl, rfl, rfl, rfl, rfl⟩ rfl rfl rfl rfl rfl (by kernel_rfl) Tryd.func5 (by kernel_rfl)
    (of_decide_eq_true (by kernel_rfl)) (by unfold Func.isWrapper; first | (rw [if_pos (by decide +kernel)]; kernel_rfl) | (rw [if_neg (by decide +kernel)]; exact ⟨rfl, rfl⟩))
    (fun os started H enc _ => lifted os started H enc)
theorem card_holds : Rows.FeedIsolatesCardSaid :=
  Claim7.holds_tied_plain_at .later [] [.data, .data] true (true, "93285ac14de4f79fe65648c4cc717cd0c2c76f26ec07f4016cc2c3bd3ccdb537") false
    over (fun _ h => by cases h) (by kernel_rfl) (fun _ h => by cases h) feedIsolates_row_tie rfl ⟨rfl, rfl⟩ (by kernel_rfl) rfl
    (fun f fn hf hfn => by
      obtain rfl : f = 5 := Option.some.inj ((show Tryd.prog.funcNamed "dropper/dropperlaw05.FeedIsolates" = some 5 by kernel_rfl).symm.trans hf) |>.symm
      obtain rfl : fn = Tryd.f5 := (Option.some.inj (Tryd.func5.symm.trans hfn)).symm
      exact ⟨by kernel_rfl, fun j t ht => by
        rw [Tryd.params5] at ht
        have hall : ∀ t ∈ (#[25, 43, 28] : Array TypeId), Tryd.prog.wantsStandIn t = false := by decide +kernel
        exact hall t (Array.mem_of_getElem? ht)⟩)
    (by kernel_rfl)
#print axioms card_holds
end Go.Proofs.YtoilhnmdemnknaaDoor.feedIsolates
namespace Go.Proofs.YtoilhnmdemnknaaDoor
/-- The row, under a short name, for the claim. -/
theorem feedIsolates_holds : Rows.FeedIsolatesCardSaid := feedIsolates.card_holds
end Go.Proofs.YtoilhnmdemnknaaDoor
