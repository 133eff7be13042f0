-- Written by wip/pack.py of this repo: texts of this claim, put together.
import Derived.DataReads
import Derived.OpenShut
import Derived.ChangeArms
import Derived.Test.YtoilhnmdemnknaaDoorRows
import Derived.ProofKit
import Derived.LaidMore
import Derived.Stop.Joined
import Derived.Test.YtoilhnmdemnknaaDoorTie
import Derived.Test.YtoilhnmdemnknaaDoorCards
import Derived.SevenTiedAt
import Derived.WalkKit
import Derived.ShutString
import Derived.ChangeOld
import Derived.Below
import Derived.SizedLaws
import Derived.Test.YtoilhnmdemnknaaDoorKFeedJoinedf
/- Go's bit operations on small numbers, as those of Nat. -/
namespace Go.Proofs.YtoilhnmdemnknaaDoor.Plain
open Go.RowKit Go.Proofs.YtoilhnmdemnknaaDoorW.PrintWords Go.Proofs.YtoilhnmdemnknaaDoorW.PrintLast Go.Proofs.YtoilhnmdemnknaaDoorW.PrintMore

theorem wrapU {n : Nat} (h : n < 2 ^ 62) : IntKind.u64.wrap (n : Int) = (n : Int) := by
  have e : IntKind.u64.wrap (n : Int) = (n : Int) % 18446744073709551616 := by simp [IntKind.wrap, IntKind.bits, IntKind.signed]
  rw [e]; omega
theorem wrapI {n : Nat} (h : n < 2 ^ 62) : IntKind.i64.wrap (n : Int) = (n : Int) := by
  rw [IntKind.wrap_i64]; omega
theorem ofInt_nat {w n : Nat} : BitVec.ofInt w (n : Int) = BitVec.ofNat w n := by simp
theorem and_u {x y : Nat} (hx : x < 2 ^ 62) (hy : y < 2 ^ 62) : Go.bits .and .u64 (x : Int) (y : Int) = ((x &&& y : Nat) : Int) := by
  have h : x &&& y < 2 ^ 62 := Nat.and_lt_two_pow x hy
  simp only [Go.bits, ofInt_nat, BitVec.toNat_and, BitVec.toNat_ofNat]
  rw [show IntKind.u64.bits = 64 from rfl, Nat.mod_eq_of_lt (show x < 2 ^ 64 by omega), Nat.mod_eq_of_lt (show y < 2 ^ 64 by omega)]
  exact wrapU h
theorem or_u {x y : Nat} (hx : x < 2 ^ 62) (hy : y < 2 ^ 62) : Go.bits .or .u64 (x : Int) (y : Int) = ((x ||| y : Nat) : Int) := by
  have h : x ||| y < 2 ^ 62 := Nat.or_lt_two_pow hx hy
  simp only [Go.bits, ofInt_nat, BitVec.toNat_or, BitVec.toNat_ofNat]
  rw [show IntKind.u64.bits = 64 from rfl, Nat.mod_eq_of_lt (show x < 2 ^ 64 by omega), Nat.mod_eq_of_lt (show y < 2 ^ 64 by omega)]
  exact wrapU h
theorem and_i {x y : Nat} (hx : x < 2 ^ 62) (hy : y < 2 ^ 62) : Go.bits .and .i64 (x : Int) (y : Int) = ((x &&& y : Nat) : Int) := by
  have h : x &&& y < 2 ^ 62 := Nat.and_lt_two_pow x hy
  simp only [Go.bits, ofInt_nat, BitVec.toNat_and, BitVec.toNat_ofNat]
  rw [show IntKind.i64.bits = 64 from rfl, Nat.mod_eq_of_lt (show x < 2 ^ 64 by omega), Nat.mod_eq_of_lt (show y < 2 ^ 64 by omega)]
  exact wrapI h
theorem shr_k {k : IntKind} (hk : k.bits = 64) {x i : Nat} (hi : i ≤ 64) : shr k (x : Int) (i : Int) = ((x >>> i : Nat) : Int) := by
  unfold shr
  rw [hk, Int.toNat_natCast, Nat.min_eq_left hi, Nat.shiftRight_eq_div_pow]
  simp
theorem shl_u {x i : Nat} (h : x * 2 ^ i < 2 ^ 62) (hi : i ≤ 64) : shl .u64 (x : Int) (i : Int) = ((x <<< i : Nat) : Int) := by
  unfold shl
  rw [show IntKind.u64.bits = 64 from rfl, Int.toNat_natCast, Nat.min_eq_left hi, Nat.shiftLeft_eq]
  have e : (x : Int) * 2 ^ i = ((x * 2 ^ i : Nat) : Int) := by simp
  rw [e]; exact wrapU h
theorem shl_i {x i : Nat} (h : x * 2 ^ i < 2 ^ 62) (hi : i ≤ 64) : shl .i64 (x : Int) (i : Int) = ((x <<< i : Nat) : Int) := by
  unfold shl
  rw [show IntKind.i64.bits = 64 from rfl, Int.toNat_natCast, Nat.min_eq_left hi, Nat.shiftLeft_eq]
  have e : (x : Int) * 2 ^ i = ((x * 2 ^ i : Nat) : Int) := by simp
  rw [e]; exact wrapI h
/-- a bit, as the code asks for it -/
theorem bit_u {x i : Nat} (hx : x < 2 ^ 62) (hi : i ≤ 64) : Go.bits .and .u64 (shr .u64 (x : Int) (i : Int)) 1 = (if x.testBit i then 1 else 0 : Int) := by
  have h : x >>> i < 2 ^ 62 := Nat.lt_of_le_of_lt (by rw [Nat.shiftRight_eq_div_pow]; exact Nat.div_le_self _ _) hx
  rw [shr_k rfl hi, show (1 : Int) = ((1 : Nat) : Int) from rfl, and_u h (by omega), Nat.testBit, Nat.and_comm]
  have : 1 &&& x >>> i = (x >>> i) % 2 := by rw [Nat.and_comm, Nat.and_one_is_mod]
  rw [this]
  rcases Nat.mod_two_eq_zero_or_one (x >>> i) with h | h <;> simp [h]
theorem bit_i {x i : Nat} (hx : x < 2 ^ 62) (hi : i ≤ 64) : Go.bits .and .i64 (shr .i64 (x : Int) (i : Int)) 1 = (if x.testBit i then 1 else 0 : Int) := by
  have h : x >>> i < 2 ^ 62 := Nat.lt_of_le_of_lt (by rw [Nat.shiftRight_eq_div_pow]; exact Nat.div_le_self _ _) hx
  rw [shr_k rfl hi, show (1 : Int) = ((1 : Nat) : Int) from rfl, and_i h (by omega), Nat.testBit, Nat.and_comm]
  have : 1 &&& x >>> i = (x >>> i) % 2 := by rw [Nat.and_comm, Nat.and_one_is_mod]
  rw [this]
  rcases Nat.mod_two_eq_zero_or_one (x >>> i) with h | h <;> simp [h]
end Go.Proofs.YtoilhnmdemnknaaDoor.Plain

/- The sections to which one comes over closed switches, as the program reckons them. -/
namespace Go.Proofs.YtoilhnmdemnknaaDoor.Plain
set_option linter.unusedVariables false
set_option linter.unusedSimpArgs false
open Go.RowKit Go.Proofs.YtoilhnmdemnknaaDoor.XFeed Go.Proofs.YtoilhnmdemnknaaDoorW.PrintWords Go.Proofs.YtoilhnmdemnknaaDoorW.PrintLast Go.Proofs.YtoilhnmdemnknaaDoorW.PrintMore

theorem ev_const {α : Type} {o : Option α} {r : α} (h : o = some r) : Ev (fun _ => o) r := ⟨0, fun _ _ => h⟩
theorem ev_pos {α : Type} {c : Prop} [Decidable c] {a b : Nat → Option α} {r : α} (hc : c) (h : Ev a r) : Ev (fun k => if c then a k else b k) r :=
  Ev.congr (fun k => if_pos hc) h
theorem ev_neg {α : Type} {c : Prop} [Decidable c] {a b : Nat → Option α} {r : α} (hc : ¬ c) (h : Ev b r) : Ev (fun k => if c then a k else b k) r :=
  Ev.congr (fun k => if_neg hc) h
theorem ev_some {α β : Type} {a : α} {f : Nat → α → Option β} {r : β} (h : Ev (fun k => f k a) r) : Ev (fun k => (some a).bind (f k)) r := h
theorem wrap_id {x : Int} (h0 : -9223372036854775808 ≤ x) (h1 : x ≤ 9223372036854775807) : wrap64 x = x := by unfold wrap64; omega
theorem wrap_succ (n : Nat) (h : n ≤ 4000000000000000000) : wrap64 ((n : Int) + 1) = ((n + 1 : Nat) : Int) := by rw [wrap_id] <;> omega

/-- switches between sections below n -/
def SwOk (n : Nat) (sw : List S69) : Prop := ∀ s ∈ sw, 0 ≤ s.f0 ∧ s.f0 < n ∧ 0 ≤ s.f1 ∧ s.f1 < n ∧ s.f0 ≠ s.f1
/-- one closed switch between two sections -/
def Edge (sw : List S69) (st a b : Nat) : Prop := ∃ i, ∃ h : i < sw.length, st.testBit i = true ∧ ((sw[i].f0 = a ∧ sw[i].f1 = b) ∨ (sw[i].f0 = b ∧ sw[i].f1 = a))
inductive Conn (sw : List S69) (st : Nat) (a : Nat) : Nat → Prop
  | refl : Conn sw st a a
  | step {b c : Nat} : Conn sw st a b → Edge sw st b c → Conn sw st a c
theorem rd_S69 (xs : List S69) (i : Nat) (h : i < xs.length) : rd_T69 xs (i : Int) = xs[i] := by simp [rd_T69, List.getD_eq_getElem?_getD, h]

def two (a b : Nat) : Nat := 1 <<< a ||| 1 <<< b
theorem two_bit (a b j : Nat) : (two a b).testBit j = (decide (j = a) || decide (j = b)) := by
  simp only [two, Nat.testBit_or, Nat.one_shiftLeft, Nat.testBit_two_pow]
  rw [show decide (a = j) = decide (j = a) from decide_eq_decide.2 eq_comm, show decide (b = j) = decide (j = b) from decide_eq_decide.2 eq_comm]
theorem two_lt {a b : Nat} (ha : a < 8) (hb : b < 8) : two a b < 256 := by
  have h1 : 1 <<< a < 2 ^ 8 := by rw [Nat.one_shiftLeft]; exact Nat.pow_lt_pow_right (by decide) ha
  have h2 : 1 <<< b < 2 ^ 8 := by rw [Nat.one_shiftLeft]; exact Nat.pow_lt_pow_right (by decide) hb
  exact Nat.or_lt_two_pow h1 h2
theorem and_two_zero {m a b : Nat} : m &&& two a b = 0 ↔ m.testBit a = false ∧ m.testBit b = false := by
  constructor
  · intro h
    have h2 := fun j => congrArg (fun x => x.testBit j) h
    simp only [Nat.testBit_and, two_bit, Nat.zero_testBit] at h2
    exact ⟨by simpa using h2 a, by simpa using h2 b⟩
  · rintro ⟨h1, h2⟩
    apply Nat.eq_of_testBit_eq
    intro j
    simp only [Nat.testBit_and, two_bit, Nat.zero_testBit]
    by_cases ha : j = a
    · subst ha; simp [h1]
    · by_cases hb : j = b
      · subst hb; simp [h2]
      · simp [ha, hb]
theorem and_two_all {m a b : Nat} : m &&& two a b = two a b ↔ m.testBit a = true ∧ m.testBit b = true := by
  constructor
  · intro h
    have h2 := fun j => congrArg (fun x => x.testBit j) h
    simp only [Nat.testBit_and, two_bit] at h2
    exact ⟨by simpa using h2 a, by simpa using h2 b⟩
  · rintro ⟨h1, h2⟩
    apply Nat.eq_of_testBit_eq
    intro j
    simp only [Nat.testBit_and, two_bit]
    by_cases ha : j = a
    · subst ha; simp [h1]
    · by_cases hb : j = b
      · subst hb; simp [h2]
      · simp [ha, hb]
/-- a mask that holds the sections that are come to, and only such -/
def Sound (sw : List S69) (st a m : Nat) : Prop := m < 256 ∧ m.testBit a = true ∧ ∀ j, m.testBit j = true → Conn sw st a j
def Even (sw : List S69) (st m i : Nat) : Prop := ∀ j, ∀ h : j < sw.length, j < i → st.testBit j = true → m.testBit (sw[j].f0).toNat = m.testBit (sw[j].f1).toNat
theorem conn_of_even {sw : List S69} {st a m : Nat} (hs : Sound sw st a m) (he : Even sw st m sw.length) {j : Nat} (h : Conn sw st a j) : m.testBit j = true := by
  induction h with
  | refl => exact hs.2.1
  | step _ e ih =>
    obtain ⟨i, hi, hb, h | h⟩ := e
    · have := he i hi hi hb
      rw [h.1, h.2, Int.toNat_natCast, Int.toNat_natCast] at this
      rw [← this]; exact ih
    · have := he i hi hi hb
      rw [h.1, h.2, Int.toNat_natCast, Int.toNat_natCast] at this
      rw [this]; exact ih
theorem or_two_sound {sw : List S69} {st a m : Nat} (hs : Sound sw st a m) {i : Nat} (hi : i < sw.length) (hb : st.testBit i = true) {x y : Nat} (hx : sw[i].f0 = x) (hy : sw[i].f1 = y) (hx8 : x < 8) (hy8 : y < 8)
    (h : m.testBit x = true ∨ m.testBit y = true) : Sound sw st a (m ||| two x y) := by
  have hlt8 : m ||| two x y < 2 ^ 8 := Nat.or_lt_two_pow hs.1 (two_lt hx8 hy8)
  refine ⟨hlt8, by rw [Nat.testBit_or, hs.2.1]; rfl, fun j hj => ?_⟩
  rw [Nat.testBit_or, two_bit] at hj
  have e1 : Edge sw st x y := ⟨i, hi, hb, .inl ⟨hx, hy⟩⟩
  have e2 : Edge sw st y x := ⟨i, hi, hb, .inr ⟨hx, hy⟩⟩
  by_cases hm : m.testBit j = true
  · exact hs.2.2 j hm
  · have hm2 : m.testBit j = false := by simpa using hm
    rw [hm2, Bool.false_or] at hj
    have hj2 : j = x ∨ j = y := by simpa using hj
    rcases hj2 with rfl | rfl
    · rcases h with h | h
      · exact hs.2.2 _ h
      · exact Conn.step (hs.2.2 _ h) e2
    · rcases h with h | h
      · exact Conn.step (hs.2.2 _ h) e1
      · exact hs.2.2 _ h
theorem or_gt {m t : Nat} (h : m &&& t ≠ t) : m < m ||| t := by
  refine Nat.lt_of_le_of_ne Nat.left_le_or (fun e => h ?_)
  have : (m ||| t) &&& t = t := by
    apply Nat.eq_of_testBit_eq
    intro j
    rw [Nat.testBit_and, Nat.testBit_or]
    cases m.testBit j <;> cases t.testBit j <;> rfl
  rw [← e] at this
  exact this
/-- what the program's groups are -/
def Group (sw : List S69) (st a m : Nat) : Prop := Sound sw st a m ∧ Even sw st m sw.length
theorem group_l1 (n : Int) (sw : List S69) (fe : List S71) (hsw : SwOk 8 sw) (hlen : sw.length ≤ 20) (st a : Nat) (hst : st < 2 ^ 20) (m0 : Nat)
    (IH : ∀ m, m0 < m → Sound sw st a m → ∃ r, Ev (fun k => feed_grid_group.l0 k (st : Int) (m : Int) true n sw fe) ((r : Nat) : Int) ∧ Group sw st a r) :
    ∀ (d i m : Nat) (b : Bool), i + d = sw.length → Sound sw st a m → (b = false → m = m0 ∧ Even sw st m0 i) → (b = true → m0 < m) →
    ∃ r, Ev (fun k => feed_grid_group.l1 k (st : Int) (m : Int) b sw (sw.length : Int) (i : Int) n sw fe) ((r : Nat) : Int) ∧ Group sw st a r := by
  intro d
  induction d with
  | zero =>
    intro i m b hi hs hf ht
    obtain rfl : i = sw.length := by omega
    cases b with
    | true =>
      obtain ⟨r, h1, h2⟩ := IH m (ht rfl) hs
      refine ⟨r, ?_, h2⟩
      refine Ev.step (fun k => by rw [feed_grid_group.l1]) ?_
      exact ev_neg (by omega) h1
    | false =>
      obtain ⟨rfl, he⟩ := hf rfl
      refine ⟨m, ?_, hs, he⟩
      refine Ev.step (fun k => by rw [feed_grid_group.l1]) (ev_neg (by omega) ?_)
      refine Ev.step (fun k => by rw [feed_grid_group.l0]) ?_
      exact ev_neg (by simp) (Ev.now _)
  | succ d ih =>
    intro i m b hi hs hf ht
    have hlt : i < sw.length := by omega
    have hm := hs.1
    obtain ⟨x0, x1, y0, y1, hxy⟩ := hsw sw[i] (List.getElem_mem hlt)
    obtain ⟨x, hx⟩ := Int.eq_ofNat_of_zero_le x0
    obtain ⟨y, hy⟩ := Int.eq_ofNat_of_zero_le y0
    have hx8 : x < 8 := by omega
    have hy8 : y < 8 := by omega
    have ht2 := two_lt hx8 hy8
    have start : ∀ r : Nat, Ev (fun k => if (Go.bits .and .i64 (shr .i64 (st : Int) (i : Int)) 1) = 0 then feed_grid_group.l1 k (st : Int) (m : Int) b sw (sw.length : Int) (wrap64 ((i : Int) + 1)) n sw fe else (if 0 ≤ ((rd_T69 sw (i : Int)).f0) then (if 0 ≤ ((rd_T69 sw (i : Int)).f1) then (if (Go.bits .and .u64 (m : Int) (Go.bits .or .u64 (shl .u64 1 ((rd_T69 sw (i : Int)).f0)) (shl .u64 1 ((rd_T69 sw (i : Int)).f1)))) = 0 then (feed_grid_group.l1 k (st : Int) (m : Int) b sw (sw.length : Int) (wrap64 ((i : Int) + 1)) n sw fe) else (if (Go.bits .and .u64 (m : Int) (Go.bits .or .u64 (shl .u64 1 ((rd_T69 sw (i : Int)).f0)) (shl .u64 1 ((rd_T69 sw (i : Int)).f1)))) = (Go.bits .or .u64 (shl .u64 1 ((rd_T69 sw (i : Int)).f0)) (shl .u64 1 ((rd_T69 sw (i : Int)).f1))) then (feed_grid_group.l1 k (st : Int) (m : Int) b sw (sw.length : Int) (wrap64 ((i : Int) + 1)) n sw fe) else (feed_grid_group.l1 k (st : Int) (Go.bits .or .u64 (m : Int) (Go.bits .or .u64 (shl .u64 1 ((rd_T69 sw (i : Int)).f0)) (shl .u64 1 ((rd_T69 sw (i : Int)).f1)))) true sw (sw.length : Int) (wrap64 ((i : Int) + 1)) n sw fe))) else (none)) else (none))) (r : Int) →
        Ev (fun k => feed_grid_group.l1 k (st : Int) (m : Int) b sw (sw.length : Int) (i : Int) n sw fe) (r : Int) := by
      intro r h
      refine Ev.step (fun k => by rw [feed_grid_group.l1]) ?_
      exact ev_pos (by omega) (ev_pos (by omega) (ev_pos (by omega) h))
    rw [rd_S69 sw i hlt, hx, hy] at start
    have e1 : shl .u64 1 ((x : Nat) : Int) = ((1 <<< x : Nat) : Int) := shl_u (x := 1) (by rw [Nat.one_mul]; exact Nat.lt_of_lt_of_le (Nat.pow_lt_pow_right (by decide) hx8) (by decide)) (by omega)
    have e2 : shl .u64 1 ((y : Nat) : Int) = ((1 <<< y : Nat) : Int) := shl_u (x := 1) (by rw [Nat.one_mul]; exact Nat.lt_of_lt_of_le (Nat.pow_lt_pow_right (by decide) hy8) (by decide)) (by omega)
    have s1 : 1 <<< x < 2 ^ 62 := by rw [Nat.one_shiftLeft]; exact Nat.lt_of_lt_of_le (Nat.pow_lt_pow_right (by decide) hx8) (by decide)
    have s2 : 1 <<< y < 2 ^ 62 := by rw [Nat.one_shiftLeft]; exact Nat.lt_of_lt_of_le (Nat.pow_lt_pow_right (by decide) hy8) (by decide)
    have e3 : Go.bits .or .u64 ((1 <<< x : Nat) : Int) ((1 <<< y : Nat) : Int) = ((two x y : Nat) : Int) := or_u s1 s2
    have e4 : Go.bits .and .u64 (m : Int) ((two x y : Nat) : Int) = ((m &&& two x y : Nat) : Int) := and_u (by omega) (by omega)
    have e5 : Go.bits .or .u64 (m : Int) ((two x y : Nat) : Int) = ((m ||| two x y : Nat) : Int) := or_u (by omega) (by omega)
    rw [e1, e2, e3, e4, e5, bit_i (by omega) (by omega), wrap_succ i (by omega)] at start
    have keep : ∀ (hE : st.testBit i = true → m.testBit x = m.testBit y), b = false → m = m0 ∧ Even sw st m0 (i + 1) := by
      intro hE hb
      obtain ⟨rfl, he⟩ := hf hb
      refine ⟨rfl, fun j hj hji hjb => ?_⟩
      by_cases h : j < i
      · exact he j hj h hjb
      · obtain rfl : j = i := by omega
        rw [hx, hy, Int.toNat_natCast, Int.toNat_natCast]
        exact hE hjb
    by_cases hbit : st.testBit i = true
    · rw [if_pos hbit] at start
      by_cases hz : m &&& two x y = 0
      · have hz2 := and_two_zero.1 hz
        obtain ⟨r, h1, h2⟩ := ih (i + 1) m b (by omega) hs (keep fun _ => by rw [hz2.1, hz2.2]) ht
        exact ⟨r, start r (ev_neg (by decide) (ev_pos (by omega) (ev_pos (by omega) (ev_pos (by omega) h1)))), h2⟩
      · by_cases ha : m &&& two x y = two x y
        · have ha2 := and_two_all.1 ha
          obtain ⟨r, h1, h2⟩ := ih (i + 1) m b (by omega) hs (keep fun _ => by rw [ha2.1, ha2.2]) ht
          exact ⟨r, start r (ev_neg (by decide) (ev_pos (by omega) (ev_pos (by omega) (ev_neg (by omega) (ev_pos (by omega) h1))))), h2⟩
        · have hor : m.testBit x = true ∨ m.testBit y = true := by
            by_cases h1 : m.testBit x = true
            · exact .inl h1
            · by_cases h2 : m.testBit y = true
              · exact .inr h2
              · exact absurd (and_two_zero.2 ⟨by simpa using h1, by simpa using h2⟩) hz
          have hgt := or_gt ha
          have hm0 : m0 < m ||| two x y := by
            cases b with
            | true => have := ht rfl; omega
            | false => have := (hf rfl).1; omega
          obtain ⟨r, h1, h2⟩ := ih (i + 1) (m ||| two x y) true (by omega) (or_two_sound hs hlt hbit hx hy hx8 hy8 hor) (fun h => by cases h) (fun _ => hm0)
          exact ⟨r, start r (ev_neg (by decide) (ev_pos (by omega) (ev_pos (by omega) (ev_neg (by omega) (ev_neg (by omega) h1))))), h2⟩
    · rw [if_neg hbit] at start
      obtain ⟨r, h1, h2⟩ := ih (i + 1) m b (by omega) hs (keep fun h => absurd h hbit) ht
      exact ⟨r, start r (ev_pos rfl h1), h2⟩
theorem group_l0 (n : Int) (sw : List S69) (fe : List S71) (hsw : SwOk 8 sw) (hlen : sw.length ≤ 20) (st a : Nat) (hst : st < 2 ^ 20) :
    ∀ (q m : Nat), 256 - m ≤ q → Sound sw st a m → ∃ r, Ev (fun k => feed_grid_group.l0 k (st : Int) (m : Int) true n sw fe) ((r : Nat) : Int) ∧ Group sw st a r := by
  intro q
  induction q with
  | zero => intro m hq hs; have := hs.1; omega
  | succ q ih =>
    intro m hq hs
    have hm := hs.1
    obtain ⟨r, h1, h2⟩ := group_l1 n sw fe hsw hlen st a hst m (fun m' hm' hs' => ih m' (by omega) hs') sw.length 0 m false (by omega) hs (fun _ => ⟨rfl, fun j hj hji => by omega⟩) (fun h => by cases h)
    refine ⟨r, ?_, h2⟩
    refine Ev.step (fun k => by rw [feed_grid_group.l0]) ?_
    exact ev_pos rfl h1
theorem group_ev (n : Int) (sw : List S69) (fe : List S71) (hsw : SwOk 8 sw) (hlen : sw.length ≤ 20) (st a : Nat) (hst : st < 2 ^ 20) (ha : a < 8) :
    ∃ r : Nat, Ev (fun k => feed_grid_group.f k n sw fe (st : Int) (a : Int)) ((r : Nat) : Int) ∧ r < 256 ∧ ∀ j, r.testBit j = true ↔ Conn sw st a j := by
  have e1 : shl .u64 1 ((a : Nat) : Int) = ((1 <<< a : Nat) : Int) := shl_u (x := 1) (by rw [Nat.one_mul]; exact Nat.lt_of_lt_of_le (Nat.pow_lt_pow_right (by decide) ha) (by decide)) (by omega)
  have hs : Sound sw st a (1 <<< a) := by
    refine ⟨by rw [Nat.one_shiftLeft]; exact Nat.lt_of_lt_of_le (Nat.pow_lt_pow_right (by decide) ha) (by decide), by rw [Nat.one_shiftLeft, Nat.testBit_two_pow]; simp, fun j hj => ?_⟩
    rw [Nat.one_shiftLeft, Nat.testBit_two_pow] at hj
    obtain rfl : a = j := by simpa using hj
    exact Conn.refl
  obtain ⟨r, h1, h2⟩ := group_l0 n sw fe hsw hlen st a hst 256 (1 <<< a) (Nat.sub_le _ _) hs
  refine ⟨r, ?_, h2.1.1, fun j => ⟨h2.1.2.2 j, fun h => conn_of_even h2.1 h2.2 h⟩⟩
  unfold feed_grid_group.f
  rw [e1]
  exact ev_pos (by omega) h1
end Go.Proofs.YtoilhnmdemnknaaDoor.Plain

/- With which phases the sections are fed, as the program reckons them. -/
namespace Go.Proofs.YtoilhnmdemnknaaDoor.Plain
set_option linter.unusedVariables false
set_option linter.unusedSimpArgs false
open Go.RowKit Go.Proofs.YtoilhnmdemnknaaDoor.XFeed Go.Proofs.YtoilhnmdemnknaaDoorW.PrintWords Go.Proofs.YtoilhnmdemnknaaDoorW.PrintLast Go.Proofs.YtoilhnmdemnknaaDoorW.PrintMore

def FeOk (n : Nat) (fe : List S71) : Prop := ∀ f ∈ fe, 0 ≤ f.f0 ∧ f.f0 < n ∧ 1 ≤ f.f1 ∧ f.f1 ≤ 3
/-- the phases of a section -/
def Mask (sw : List S69) (st : Nat) (fs : List S71) (i m : Nat) : Prop :=
  m < 16 ∧ ∀ p, m.testBit p = true ↔ ∃ f ∈ fs, f.f1 = (p : Int) ∧ Conn sw st f.f0.toNat i
theorem rd_S71 (xs : List S71) (i : Nat) (h : i < xs.length) : rd_T71 xs (i : Int) = xs[i] := by simp [rd_T71, List.getD_eq_getElem?_getD, h]
theorem rd_set (l : List Int) (i j : Nat) (v : Int) (hi : i < l.length) : rd (l.set i v) (j : Int) = if j = i then v else rd l (j : Int) := by
  simp only [rd, Int.toNat_natCast, List.getD_eq_getElem?_getD, List.getElem?_set]
  by_cases h : i = j
  · subst h; simp [hi]
  · rw [if_neg h, if_neg (fun e => h e.symm)]
theorem mask_no {sw : List S69} {st : Nat} {fs : List S71} {f : S71} {i m : Nat} (h : Mask sw st fs i m) (hn : ¬ Conn sw st f.f0.toNat i) : Mask sw st (fs ++ [f]) i m := by
  refine ⟨h.1, fun p => ?_⟩
  rw [h.2 p]
  constructor
  · rintro ⟨x, hx, h1, h2⟩; exact ⟨x, List.mem_append_left _ hx, h1, h2⟩
  · rintro ⟨x, hx, h1, h2⟩
    rcases List.mem_append.1 hx with hx | hx
    · exact ⟨x, hx, h1, h2⟩
    · obtain rfl : x = f := by simpa using hx
      exact absurd h2 hn
theorem mask_yes {sw : List S69} {st : Nat} {fs : List S71} {f : S71} {i m q : Nat} (h : Mask sw st fs i m) (hc : Conn sw st f.f0.toNat i) (hq : f.f1 = (q : Int)) (hq4 : q < 4) : Mask sw st (fs ++ [f]) i (m ||| 1 <<< q) := by
  have hlt : m ||| 1 <<< q < 2 ^ 4 := Nat.or_lt_two_pow h.1 (by rw [Nat.one_shiftLeft]; exact Nat.pow_lt_pow_right (by decide) hq4)
  refine ⟨hlt, fun p => ?_⟩
  rw [Nat.testBit_or, Bool.or_eq_true, h.2 p, Nat.one_shiftLeft, Nat.testBit_two_pow, decide_eq_true_eq]
  constructor
  · rintro (⟨x, hx, h1, h2⟩ | rfl)
    · exact ⟨x, List.mem_append_left _ hx, h1, h2⟩
    · exact ⟨f, by simp, hq, hc⟩
  · rintro ⟨x, hx, h1, h2⟩
    rcases List.mem_append.1 hx with hx | hx
    · exact .inl ⟨x, hx, h1, h2⟩
    · obtain rfl : x = f := by simpa using hx
      right; omega
def Fed (sw : List S69) (st n : Nat) (fs : List S71) (l : List Int) : Prop := l.length = n ∧ ∀ i, i < n → ∃ m, rd l (i : Int) = ((m : Nat) : Int) ∧ Mask sw st fs i m
theorem fed_l1 (n : Nat) (hn : n ≤ 8) (sw : List S69) (fe : List S71) (st : Nat) (f : S71) (hf : 1 ≤ f.f1 ∧ f.f1 ≤ 3) (fs : List S71) (q : Nat) (g : Nat) (hg : g < 256) (hgc : ∀ j, g.testBit j = true ↔ Conn sw st f.f0.toNat j)
    (hend : ∀ l', Fed sw st n (fs ++ [f]) l' → ∃ r, Ev (fun k => feed_grid_fed.l0 k (st : Int) l' fe (fe.length : Int) (wrap64 ((q : Int) + 1)) (n : Int) sw fe) r ∧ Fed sw st n fe r) :
    ∀ (d i : Nat) (l : List Int), i + d = n → l.length = n → (∀ j, j < n → ∃ m, rd l (j : Int) = ((m : Nat) : Int) ∧ Mask sw st (if j < i then fs ++ [f] else fs) j m) →
    ∃ r, Ev (fun k => feed_grid_fed.l1 k (st : Int) l (g : Int) fe (fe.length : Int) (q : Int) (n : Int) (i : Int) (n : Int) sw fe f.f0 f.f1) r ∧ Fed sw st n fe r := by
  intro d
  induction d with
  | zero =>
    intro i l hi hl hm
    obtain rfl : i = n := by omega
    obtain ⟨r, h1, h2⟩ := hend l ⟨hl, fun j hj => by
      obtain ⟨m, e, h⟩ := hm j hj
      rw [if_pos hj] at h
      exact ⟨m, e, h⟩⟩
    refine ⟨r, ?_, h2⟩
    refine Ev.step (fun k => by rw [feed_grid_fed.l1]) ?_
    exact ev_neg (by omega) h1
  | succ d ih =>
    intro i l hi hl hm
    obtain ⟨m, e, h⟩ := hm i (by omega)
    rw [if_neg (by omega)] at h
    have hm16 := h.1
    have hb := bit_u (x := g) (i := i) (by omega) (by omega)
    by_cases hc : g.testBit i = true
    · have hcc := (hgc i).1 hc
      rw [if_pos hc] at hb
      obtain ⟨p, hp⟩ := Int.eq_ofNat_of_zero_le (show 0 ≤ f.f1 by omega)
      have s1 : 1 <<< p < 2 ^ 62 := by rw [Nat.one_shiftLeft]; exact Nat.lt_of_lt_of_le (Nat.pow_lt_pow_right (by decide) (show p < 4 by omega)) (by decide)
      have e1 : shl .u64 1 ((p : Nat) : Int) = ((1 <<< p : Nat) : Int) := shl_u (x := 1) (by rw [Nat.one_mul]; exact Nat.lt_of_lt_of_le (Nat.pow_lt_pow_right (by decide) (show p < 4 by omega)) (by decide)) (by omega)
      have e2 : Go.bits .or .u64 (m : Int) ((1 <<< p : Nat) : Int) = ((m ||| 1 <<< p : Nat) : Int) := or_u (by omega) s1
      obtain ⟨r, h1, h2⟩ := ih (i + 1) (l.set i ((m ||| 1 <<< p : Nat) : Int)) (by omega) (by rw [List.length_set]; exact hl) (fun j hj => by
        rw [rd_set _ _ _ _ (by omega)]
        by_cases hji : j = i
        · subst hji
          rw [if_pos rfl, if_pos (by omega)]
          exact ⟨_, rfl, mask_yes h hcc hp (by omega)⟩
        · rw [if_neg hji]
          obtain ⟨m', e', h'⟩ := hm j hj
          refine ⟨m', e', ?_⟩
          by_cases hlt : j < i
          · rw [if_pos hlt] at h'; rw [if_pos (by omega)]; exact h'
          · rw [if_neg hlt] at h'; rw [if_neg (by omega)]; exact h')
      refine ⟨r, ?_, h2⟩
      refine Ev.step (fun k => by rw [feed_grid_fed.l1]) ?_
      rw [hb, e, hp, e1, e2, wrap_succ i (by omega), Int.toNat_natCast]
      rw [hp] at h1
      exact ev_pos (by omega) (ev_pos (by omega) (ev_pos rfl (ev_pos (by omega) (ev_pos (by omega) h1))))
    · rw [if_neg hc] at hb
      obtain ⟨r, h1, h2⟩ := ih (i + 1) l (by omega) hl (fun j hj => by
        obtain ⟨m', e', h'⟩ := hm j hj
        refine ⟨m', e', ?_⟩
        by_cases hji : j = i
        · subst hji
          rw [if_neg (by omega)] at h'
          rw [if_pos (by omega)]
          exact mask_no h' (fun hx => hc ((hgc j).2 hx))
        · by_cases hlt : j < i
          · rw [if_pos hlt] at h'; rw [if_pos (by omega)]; exact h'
          · rw [if_neg hlt] at h'; rw [if_neg (by omega)]; exact h')
      refine ⟨r, ?_, h2⟩
      refine Ev.step (fun k => by rw [feed_grid_fed.l1]) ?_
      rw [hb, wrap_succ i (by omega)]
      exact ev_pos (by omega) (ev_pos (by omega) (ev_neg (by decide) h1))
theorem fed_l0 (n : Nat) (hn : n ≤ 8) (sw : List S69) (hsw : SwOk 8 sw) (hlen : sw.length ≤ 20) (fe : List S71) (hfe : FeOk n fe) (hfl : fe.length ≤ 20) (st : Nat) (hst : st < 2 ^ 20) :
    ∀ (d q : Nat) (l : List Int), q + d = fe.length → Fed sw st n (fe.take q) l → ∃ r, Ev (fun k => feed_grid_fed.l0 k (st : Int) l fe (fe.length : Int) (q : Int) (n : Int) sw fe) r ∧ Fed sw st n fe r := by
  intro d
  induction d with
  | zero =>
    intro q l hq hl
    obtain rfl : q = fe.length := by omega
    rw [List.take_length] at hl
    refine ⟨l, ?_, hl⟩
    refine Ev.step (fun k => by rw [feed_grid_fed.l0]) ?_
    exact ev_neg (by omega) (Ev.now _)
  | succ d ih =>
    intro q l hq hl
    have hlt : q < fe.length := by omega
    obtain ⟨f0, f1, f2, f3⟩ := hfe fe[q] (List.getElem_mem hlt)
    have htk : fe.take (q + 1) = fe.take q ++ [fe[q]] := List.take_succ_eq_append_getElem hlt
    obtain ⟨g, hg1, hg2, hg3⟩ := group_ev (n : Int) sw fe hsw hlen st fe[q].f0.toNat hst (by omega)
    rw [Int.toNat_of_nonneg f0] at hg1
    obtain ⟨r, h1, h2⟩ := fed_l1 n hn sw fe st fe[q] ⟨f2, f3⟩ (fe.take q) q g hg2 hg3 (fun l' hl' => by
      rw [wrap_succ q (by omega)]
      rw [← htk] at hl'
      exact ih (q + 1) l' (by omega) hl') n 0 l (by omega) hl.1 (fun j hj => by rw [if_neg (by omega)]; exact hl.2 j hj)
    refine ⟨r, ?_, h2⟩
    refine Ev.step (fun k => by rw [feed_grid_fed.l0]) ?_
    rw [rd_S71 fe q hlt]
    refine ev_pos (by omega) (ev_pos (by omega) (ev_pos (by omega) (Ev.bind hg1 ?_)))
    rw [hl.1]
    exact h1
theorem fed_ev (n : Nat) (hn : n ≤ 8) (sw : List S69) (hsw : SwOk 8 sw) (hlen : sw.length ≤ 20) (fe : List S71) (hfe : FeOk n fe) (hfl : fe.length ≤ 20) (st : Nat) (hst : st < 2 ^ 20) :
    ∃ r, Ev (fun k => feed_grid_fed.f k (n : Int) sw fe (st : Int)) r ∧ Fed sw st n fe r := by
  obtain ⟨r, h1, h2⟩ := fed_l0 n hn sw hsw hlen fe hfe hfl st hst fe.length 0 (List.replicate n 0) (by omega) ⟨List.length_replicate, fun i hi => ⟨0, by simp [rd, hi], by decide, fun p => by simp⟩⟩
  refine ⟨r, ?_, h2⟩
  unfold feed_grid_fed.f
  rw [Int.toNat_natCast]
  exact ev_pos (by omega) (ev_pos (by omega) h1)
end Go.Proofs.YtoilhnmdemnknaaDoor.Plain

/- Which grids are as described: program and document say the same. -/
namespace Go.Proofs.YtoilhnmdemnknaaDoor.Plain
set_option linter.unusedVariables false
set_option linter.unusedSimpArgs false
open Go.RowKit Go.Proofs.YtoilhnmdemnknaaDoor.XFeed Go.Proofs.YtoilhnmdemnknaaDoorW.PrintWords Go.Proofs.YtoilhnmdemnknaaDoorW.PrintLast Go.Proofs.YtoilhnmdemnknaaDoorW.PrintMore

def SwIs (N : Int) (s : S69) : Prop := 0 ≤ s.f0 ∧ s.f0 < N ∧ 0 ≤ s.f1 ∧ s.f1 < N ∧ s.f0 ≠ s.f1
def FeIs (N : Int) (f : S71) : Prop := 0 ≤ f.f0 ∧ f.f0 < N ∧ 1 ≤ f.f1 ∧ f.f1 ≤ 3
def GridOk (N : Int) (sw : List S69) (fe : List S71) : Prop :=
  1 ≤ N ∧ N ≤ 8 ∧ sw.length ≤ 10 ∧ fe.length ≤ 6 ∧ (∀ s ∈ sw, SwIs N s) ∧ ∀ f ∈ fe, FeIs N f
theorem bad1_iff {N : Int} (h1 : 1 ≤ N) (h2 : N ≤ 8) (s : S69) : feed_Valid.bad1 N s = true ↔ ¬ SwIs N s := by
  unfold feed_Valid.bad1 SwIs
  rw [wrap_id (x := N - 1) (by omega) (by omega)]
  simp only [Bool.or_eq_true, Bool.not_eq_true', Bool.and_eq_false_iff, decide_eq_false_iff_not, beq_iff_eq]
  omega
theorem bad2_iff {N : Int} (h1 : 1 ≤ N) (h2 : N ≤ 8) (f : S71) : feed_Valid.bad2 N f = true ↔ ¬ FeIs N f := by
  unfold feed_Valid.bad2 FeIs
  rw [wrap_id (x := N - 1) (by omega) (by omega)]
  simp only [Bool.or_eq_true, Bool.not_eq_true', Bool.and_eq_false_iff, decide_eq_false_iff_not]
  omega
open Classical in
theorem valid_f (N : Int) (sw : List S69) (fe : List S71) : feed_Valid.f N sw fe = some (decide (GridOk N sw fe)) := by
  unfold feed_Valid.f
  congr 1
  rw [Bool.eq_iff_iff, decide_eq_true_eq]
  simp only [Bool.and_eq_true, decide_eq_true_eq, Bool.not_eq_true', List.any_eq_false]
  unfold GridOk
  constructor
  · rintro ⟨⟨h1, h2⟩, h3, h4, h5, h6⟩
    refine ⟨h1, h2, by omega, by omega, fun s hs => ?_, fun f hf => ?_⟩
    · have := h5 s hs
      rw [bad1_iff h1 h2] at this
      exact Classical.not_not.1 this
    · have := h6 f hf
      rw [bad2_iff h1 h2] at this
      exact Classical.not_not.1 this
  · rintro ⟨h1, h2, h3, h4, h5, h6⟩
    refine ⟨⟨h1, h2⟩, by omega, by omega, fun s hs => ?_, fun f hf => ?_⟩
    · rw [bad1_iff h1 h2]; exact fun h => h (h5 s hs)
    · rw [bad2_iff h1 h2]; exact fun h => h (h6 f hf)
theorem section_f (N : Int) (sw : List S69) (fe : List S71) (x : Int) : dropperref05_section.f N sw fe x = some (decide (0 ≤ x ∧ x < N)) := by
  unfold dropperref05_section.f
  by_cases h : x ≥ 0
  · rw [if_pos h]; congr 1; rw [decide_eq_decide]; omega
  · rw [if_neg h]; congr 1; symm; rw [decide_eq_false_iff_not]; omega
open Classical in
theorem rvalid_l1 (N : Int) (sw : List S69) (fe : List S71) (hl : fe.length ≤ 6) : ∀ (d i : Nat), i + d = fe.length → (∀ j (h : j < fe.length), j < i → FeIs N fe[j]) →
    Ev (fun k => dropperref05_Valid.l1 k (i : Int) N sw fe) (decide (∀ f ∈ fe, FeIs N f)) := by
  intro d
  induction d with
  | zero =>
    intro i hi hb
    refine Ev.step (fun k => by rw [dropperref05_Valid.l1]) ?_
    refine ev_neg (by omega) (ev_const ?_)
    rw [decide_eq_true]
    intro f hf
    obtain ⟨j, hj, rfl⟩ := List.mem_iff_getElem.1 hf
    exact hb j hj (by omega)
  | succ d ih =>
    intro i hi hb
    have hlt : i < fe.length := by omega
    have no : ¬ FeIs N fe[i] → (false : Bool) = decide (∀ f ∈ fe, FeIs N f) := fun h => by
      symm; rw [decide_eq_false_iff_not]; exact fun h2 => h (h2 _ (List.getElem_mem hlt))
    refine Ev.step (fun k => by rw [dropperref05_Valid.l1]) ?_
    rw [rd_S71 fe i hlt, section_f, wrap_succ i (by omega)]
    refine ev_pos (by omega) (ev_pos (by omega) (ev_some ?_))
    by_cases h0 : 0 ≤ fe[i].f0 ∧ fe[i].f0 < N
    · refine ev_pos (decide_eq_true h0) ?_
      by_cases h1 : fe[i].f1 < 1
      · exact ev_pos h1 (ev_const (congrArg some (no (fun h => by unfold FeIs at h; omega))))
      refine ev_neg h1 ?_
      by_cases h2 : fe[i].f1 > 3
      · exact ev_pos h2 (ev_const (congrArg some (no (fun h => by unfold FeIs at h; omega))))
      refine ev_neg h2 (ih (i + 1) (by omega) (fun j hj hji => ?_))
      by_cases h : j < i
      · exact hb j hj h
      · obtain rfl : j = i := by omega
        unfold FeIs; omega
    · exact ev_neg (by simpa using h0) (ev_const (congrArg some (no (fun h => h0 ⟨h.1, h.2.1⟩))))
open Classical in
theorem rvalid_l0 (N : Int) (sw : List S69) (fe : List S71) (hl : fe.length ≤ 6) (hs : sw.length ≤ 10) : ∀ (d i : Nat), i + d = sw.length → (∀ j (h : j < sw.length), j < i → SwIs N sw[j]) →
    Ev (fun k => dropperref05_Valid.l0 k (i : Int) N sw fe) (decide ((∀ s ∈ sw, SwIs N s) ∧ ∀ f ∈ fe, FeIs N f)) := by
  intro d
  induction d with
  | zero =>
    intro i hi hb
    have hall : ∀ s ∈ sw, SwIs N s := by
      intro f hf
      obtain ⟨j, hj, rfl⟩ := List.mem_iff_getElem.1 hf
      exact hb j hj (by omega)
    have e : decide ((∀ s ∈ sw, SwIs N s) ∧ ∀ f ∈ fe, FeIs N f) = decide (∀ f ∈ fe, FeIs N f) := by
      rw [decide_eq_decide]; exact ⟨fun h => h.2, fun h => ⟨hall, h⟩⟩
    rw [e]
    refine Ev.step (fun k => by rw [dropperref05_Valid.l0]) ?_
    exact ev_neg (by omega) (rvalid_l1 N sw fe hl fe.length 0 (by omega) (fun j h hj => by omega))
  | succ d ih =>
    intro i hi hb
    have hlt : i < sw.length := by omega
    have no : ¬ SwIs N sw[i] → (false : Bool) = decide ((∀ s ∈ sw, SwIs N s) ∧ ∀ f ∈ fe, FeIs N f) := fun h => by
      symm; rw [decide_eq_false_iff_not]; exact fun h2 => h (h2.1 _ (List.getElem_mem hlt))
    refine Ev.step (fun k => by rw [dropperref05_Valid.l0]) ?_
    rw [rd_S69 sw i hlt, section_f, section_f, wrap_succ i (by omega)]
    refine ev_pos (by omega) (ev_pos (by omega) (ev_some ?_))
    by_cases h0 : 0 ≤ sw[i].f0 ∧ sw[i].f0 < N
    · refine ev_pos (decide_eq_true h0) (ev_some ?_)
      by_cases h1 : 0 ≤ sw[i].f1 ∧ sw[i].f1 < N
      · refine ev_pos (decide_eq_true h1) ?_
        by_cases h2 : sw[i].f0 = sw[i].f1
        · exact ev_pos h2 (ev_const (congrArg some (no (fun h => h.2.2.2.2 h2))))
        refine ev_neg h2 (ih (i + 1) (by omega) (fun j hj hji => ?_))
        by_cases h : j < i
        · exact hb j hj h
        · obtain rfl : j = i := by omega
          exact ⟨h0.1, h0.2, h1.1, h1.2, h2⟩
      · exact ev_neg (by simpa using h1) (ev_const (congrArg some (no (fun h => h1 ⟨h.2.2.1, h.2.2.2.1⟩))))
    · exact ev_neg (by simpa using h0) (ev_const (congrArg some (no (fun h => h0 ⟨h.1, h.2.1⟩))))
open Classical in
theorem rvalid_ev (N : Int) (sw : List S69) (fe : List S71) : Ev (fun k => dropperref05_Valid.f k N sw fe) (decide (GridOk N sw fe)) := by
  have no : ¬ GridOk N sw fe → Ev (fun k => dropperref05_Valid.j0 k true N sw fe) (decide (GridOk N sw fe)) := fun h => by
    rw [decide_eq_false h]
    refine Ev.step (fun k => by rw [dropperref05_Valid.j0]) ?_
    exact ev_pos rfl (Ev.now _)
  unfold dropperref05_Valid.f
  by_cases h1 : N < 1
  · exact ev_pos h1 (no (fun h => by have := h.1; omega))
  refine ev_neg h1 ?_
  by_cases h2 : N > 8
  · exact ev_pos h2 (no (fun h => by have := h.2.1; omega))
  refine ev_neg h2 ?_
  by_cases h3 : (sw.length : Int) > 10
  · exact ev_pos h3 (no (fun h => by have := h.2.2.1; omega))
  refine ev_neg h3 ?_
  by_cases h4 : (fe.length : Int) > 6
  · rw [decide_eq_true h4]
    exact no (fun h => by have := h.2.2.2.1; omega)
  rw [decide_eq_false h4]
  refine Ev.step (fun k => by rw [dropperref05_Valid.j0]) (ev_neg (by simp) ?_)
  have e : decide (GridOk N sw fe) = decide ((∀ s ∈ sw, SwIs N s) ∧ ∀ f ∈ fe, FeIs N f) := by
    rw [decide_eq_decide]
    exact ⟨fun h => h.2.2.2.2, fun h => ⟨by omega, by omega, by omega, by omega, h⟩⟩
  rw [e]
  exact rvalid_l0 N sw fe (by omega) (by omega) sw.length 0 (by omega) (fun j h hj => by omega)
end Go.Proofs.YtoilhnmdemnknaaDoor.Plain

/- What is live, and which states are right, as the program reckons them. -/
namespace Go.Proofs.YtoilhnmdemnknaaDoor.Plain
set_option linter.unusedVariables false
set_option linter.unusedSimpArgs false
open Go.RowKit Go.Proofs.YtoilhnmdemnknaaDoor.XFeed Go.Proofs.YtoilhnmdemnknaaDoorW.PrintWords Go.Proofs.YtoilhnmdemnknaaDoorW.PrintLast Go.Proofs.YtoilhnmdemnknaaDoorW.PrintMore

def cn (m : Nat) : Nat := ((List.range 4).filter m.testBit).length
def lv (m : Nat) : Int := if cn m = 0 then 0 else if cn m = 1 then (if m = 1 then 0 else if m = 2 then 1 else if m = 4 then 2 else 3) else -1
theorem ones16 : ∀ m : Nat, m < 16 → bits_OnesCount.f (m : Int) = some (cn m : Int) := by decide +kernel
theorem tz16 : ∀ m : Nat, m < 16 → cn m = 1 → bits_TrailingZeros.f (m : Int) = some (lv m) := by decide +kernel
/-- a section's mark -/
def Mark (sw : List S69) (st n : Nat) (fe : List S71) (l : List Int) : Prop := l.length = n ∧ ∀ i, i < n → ∃ m, rd l (i : Int) = lv m ∧ Mask sw st fe i m
theorem live_l0 (n : Nat) (hn : n ≤ 8) (sw : List S69) (fe : List S71) (st : Nat) (t : List Int) (ht : Fed sw st n fe t) :
    ∀ (d i : Nat) (acc : List Int), i + d = n → acc.length = i → (∀ j, j < i → ∃ m, rd acc (j : Int) = lv m ∧ Mask sw st fe j m) →
    ∃ r, Ev (fun k => feed_grid_live.l0 k acc t (t.length : Int) (i : Int)) r ∧ Mark sw st n fe r := by
  intro d
  induction d with
  | zero =>
    intro i acc hi ha hm
    obtain rfl : i = n := by omega
    have := ht.1
    refine ⟨acc, ?_, ha, hm⟩
    refine Ev.step (fun k => by rw [feed_grid_live.l0]) ?_
    exact ev_neg (by omega) (Ev.now _)
  | succ d ih =>
    intro i acc hi ha hm
    have hl := ht.1
    obtain ⟨m, e, hM⟩ := ht.2 i (by omega)
    have hm16 := hM.1
    have next : ∃ r, Ev (fun k => feed_grid_live.l0 k (acc ++ [lv m]) t (t.length : Int) ((i + 1 : Nat) : Int)) r ∧ Mark sw st n fe r := by
      refine ih (i + 1) (acc ++ [lv m]) (by omega) (by simp [ha]) (fun j hj => ?_)
      by_cases h : j < i
      · obtain ⟨m', e', h'⟩ := hm j h
        refine ⟨m', ?_, h'⟩
        rw [← e']
        simp [rd, List.getD_eq_getElem?_getD, List.getElem?_append_left (show j < acc.length by omega)]
      · obtain rfl : j = i := by omega
        refine ⟨m, ?_, hM⟩
        simp [rd, List.getD_eq_getElem?_getD, ← ha]
    obtain ⟨r, h1, h2⟩ := next
    refine ⟨r, ?_, h2⟩
    refine Ev.step (fun k => by rw [feed_grid_live.l0]) ?_
    rw [e, ones16 m hm16, wrap_succ i (by omega)]
    refine ev_pos (by omega) (ev_pos (by omega) (ev_pos (by omega) (ev_some ?_)))
    by_cases c0 : cn m = 0
    · have e0 : lv m = 0 := by unfold lv; rw [if_pos c0]
      rw [e0] at h1
      exact ev_pos (by omega) (ev_pos (by omega) h1)
    · refine ev_neg (by omega) ?_
      by_cases c1 : cn m = 1
      · rw [tz16 m hm16 c1]
        exact ev_pos (by omega) (ev_some (ev_pos (by omega) h1))
      · have e1 : lv m = -1 := by unfold lv; rw [if_neg c0, if_neg c1]
        rw [e1] at h1
        exact ev_neg (by omega) (ev_pos (by omega) h1)
theorem live_ev (n : Nat) (hn : n ≤ 8) (sw : List S69) (hsw : SwOk 8 sw) (hlen : sw.length ≤ 20) (fe : List S71) (hfe : FeOk n fe) (hfl : fe.length ≤ 20) (st : Nat) (hst : st < 2 ^ 20) :
    ∃ r, Ev (fun k => feed_grid_live.f k (n : Int) sw fe (st : Int)) r ∧ Mark sw st n fe r := by
  obtain ⟨t, h1, h2⟩ := fed_ev n hn sw hsw hlen fe hfe hfl st hst
  obtain ⟨r, h3, h4⟩ := live_l0 n hn sw fe st t h2 n 0 [] (by omega) rfl (fun j hj => by omega)
  refine ⟨r, ?_, h4⟩
  unfold feed_grid_live.f
  exact Ev.bind h1 h3
theorem index_l0 (l : List Int) (hl : l.length ≤ 100) (v : Int) : ∀ (d i : Nat), i + d = l.length → (∀ j (h : j < l.length), j < i → l[j] ≠ v) →
    ∃ r : Int, Ev (fun k => slices_Index_int_int.l0 k l v (l.length : Int) (i : Int)) r ∧ (0 ≤ r ↔ v ∈ l) := by
  intro d
  induction d with
  | zero =>
    intro i hi hb
    refine ⟨-1, ?_, ?_⟩
    · refine Ev.step (fun k => by rw [slices_Index_int_int.l0]) ?_
      exact ev_neg (by omega) (Ev.now _)
    · constructor
      · intro h; omega
      · intro h
        obtain ⟨j, hj, e⟩ := List.mem_iff_getElem.1 h
        exact absurd e (hb j hj (by omega))
  | succ d ih =>
    intro i hi hb
    have hlt : i < l.length := by omega
    have hr : rd l (i : Int) = l[i] := by simp [rd, List.getD_eq_getElem?_getD, hlt]
    by_cases he : v = l[i]
    · refine ⟨i, ?_, ?_⟩
      · refine Ev.step (fun k => by rw [slices_Index_int_int.l0]) ?_
        rw [hr]
        exact ev_pos (by omega) (ev_pos (by omega) (ev_pos (by omega) (ev_pos he (Ev.now _))))
      · exact ⟨fun _ => he ▸ List.getElem_mem hlt, fun _ => by omega⟩
    · obtain ⟨r, h1, h2⟩ := ih (i + 1) (by omega) (fun j hj hji => by
        by_cases h : j < i
        · exact hb j hj h
        · obtain rfl : j = i := by omega
          exact fun e => he e.symm)
      refine ⟨r, ?_, h2⟩
      refine Ev.step (fun k => by rw [slices_Index_int_int.l0]) ?_
      rw [hr, wrap_succ i (by omega)]
      exact ev_pos (by omega) (ev_pos (by omega) (ev_pos (by omega) (ev_neg he h1)))
theorem contains_ev (l : List Int) (hl : l.length ≤ 100) (v : Int) : Ev (fun k => slices_Contains_int_int.f k l v) (decide (v ∈ l)) := by
  obtain ⟨r, h1, h2⟩ := index_l0 l hl v l.length 0 (by omega) (fun j h hj => by omega)
  unfold slices_Contains_int_int.f slices_Index_int_int.f
  refine Ev.bind h1 (ev_const ?_)
  congr 1
  rw [decide_eq_decide]
  exact h2
theorem mask_unique {sw : List S69} {st : Nat} {fe : List S71} {i m m' : Nat} (h : Mask sw st fe i m) (h' : Mask sw st fe i m') : m = m' := by
  apply Nat.eq_of_testBit_eq
  intro p
  rw [Bool.eq_iff_iff, h.2, h'.2]
end Go.Proofs.YtoilhnmdemnknaaDoor.Plain

/- Live, Right, States of a grid as described. -/
namespace Go.Proofs.YtoilhnmdemnknaaDoor.Plain
set_option linter.unusedVariables false
set_option linter.unusedSimpArgs false
open Go.RowKit Go.Proofs.YtoilhnmdemnknaaDoor.XFeed Go.Proofs.YtoilhnmdemnknaaDoorW.PrintWords Go.Proofs.YtoilhnmdemnknaaDoorW.PrintLast Go.Proofs.YtoilhnmdemnknaaDoorW.PrintMore

theorem GridOk.sw8 {n : Nat} {sw : List S69} {fe : List S71} (h : GridOk (n : Int) sw fe) : SwOk 8 sw := fun s hs => by
  have := h.2.2.2.2.1 s hs
  have := h.2.1
  unfold SwIs at *
  omega
theorem GridOk.fe {n : Nat} {sw : List S69} {fe : List S71} (h : GridOk (n : Int) sw fe) : FeOk n fe := fun f hf => h.2.2.2.2.2 f hf
theorem all_f (N : Int) (sw : List S69) (fe : List S71) (h : sw.length ≤ 10) : feed_grid_all.f N sw fe = some ((2 ^ sw.length : Nat) : Int) := by
  unfold feed_grid_all.f
  have hp : 2 ^ sw.length ≤ 2 ^ 10 := Nat.pow_le_pow_right (by decide) h
  rw [show (1 : Int) = ((1 : Nat) : Int) from rfl, shl_i (by omega) (by omega), Nat.one_shiftLeft]
theorem within_f (a b c : Int) : feed_within.f a b c = some (decide (a ≤ b ∧ b ≤ c)) := by
  unfold feed_within.f
  by_cases h : a ≤ b
  · rw [if_pos h]; congr 1; rw [decide_eq_decide]; omega
  · rw [if_neg h]; congr 1; symm; rw [decide_eq_false_iff_not]; omega
open Classical in
theorem open_f (N : Int) (sw : List S69) (fe : List S71) (st : Int) :
    feed_open.f N sw fe st = some (N, if GridOk N sw fe then (if 0 ≤ st ∧ st < ((2 ^ sw.length : Nat) : Int) then 0 else 51) else 50) := by
  unfold feed_open.f
  rw [valid_f]
  by_cases h : GridOk N sw fe
  · have hl := h.2.2.1
    have hp : 2 ^ sw.length ≤ 2 ^ 10 := Nat.pow_le_pow_right (by decide) hl
    rw [decide_eq_true h, if_pos h]
    simp only [Option.bind_some, if_true]
    rw [all_f N sw fe hl]
    simp only [Option.bind_some]
    generalize 2 ^ sw.length = P at *
    rw [wrap_id (by omega) (by omega), within_f]
    simp only [Option.bind_some]
    by_cases h2 : 0 ≤ st ∧ st < (P : Int)
    · rw [if_pos (decide_eq_true (by omega)), if_pos h2]
    · rw [if_neg (by simp only [decide_eq_true_eq]; omega), if_neg h2]
  · rw [decide_eq_false h, if_neg h]; rfl
end Go.Proofs.YtoilhnmdemnknaaDoor.Plain

/- One more closed switch never takes anything away. -/
namespace Go.Proofs.YtoilhnmdemnknaaDoor.Plain
set_option linter.unusedVariables false
set_option linter.unusedSimpArgs false
open Go.RowKit Go.Proofs.YtoilhnmdemnknaaDoor.XFeed Go.Proofs.YtoilhnmdemnknaaDoorW.PrintWords Go.Proofs.YtoilhnmdemnknaaDoorW.PrintLast Go.Proofs.YtoilhnmdemnknaaDoorW.PrintMore

theorem mask_zero {sw : List S69} {st n : Nat} {fe : List S71} (hfe : FeOk n fe) {i m : Nat} (h : Mask sw st fe i m) : m.testBit 0 = false := by
  rw [Bool.eq_false_iff]
  intro hb
  obtain ⟨f, hf, e, _⟩ := (h.2 0).1 hb
  have := hfe f hf
  omega
end Go.Proofs.YtoilhnmdemnknaaDoor.Plain

/- What the document's answer reckons: from, live, right, States; and that it is what the program reckons. -/
namespace Go.Proofs.YtoilhnmdemnknaaDoor.Plain
set_option linter.unusedVariables false
set_option linter.unusedSimpArgs false
open Go.RowKit Go.Proofs.YtoilhnmdemnknaaDoor.XFeed Go.Proofs.YtoilhnmdemnknaaDoorW.PrintWords Go.Proofs.YtoilhnmdemnknaaDoorW.PrintLast Go.Proofs.YtoilhnmdemnknaaDoorW.PrintMore

/-- a mask as a list -/
def bl (n m : Nat) : List Bool := (List.range n).map m.testBit
theorem bl_len (n m : Nat) : (bl n m).length = n := by simp [bl]
theorem rd_bl {n m i : Nat} (h : i < n) : rdOf false (bl n m) (i : Int) = m.testBit i := by simp [rdOf, bl, List.getD_eq_getElem?_getD, h]
theorem bl_set2 {n m x y : Nat} (hx : x < n) (hy : y < n) : ((bl n m).set x true).set y true = bl n (m ||| two x y) := by
  apply List.ext_getElem
  · simp [bl]
  · intro i h1 h2
    simp only [bl, List.getElem_set, List.getElem_map, List.getElem_range, Nat.testBit_or, two_bit]
    by_cases a : y = i
    · subst a; simp
    · by_cases b : x = i
      · subst b; simp [a]
      · rw [if_neg a, if_neg b, decide_eq_false (fun e => b e.symm), decide_eq_false (fun e => a e.symm)]; simp
theorem closed_f {st i : Nat} (hs : st < 2 ^ 62) (hi : i ≤ 64) : dropperref05_closed.f (st : Int) (i : Int) = some (st.testBit i) := by
  unfold dropperref05_closed.f
  rw [bit_i hs hi, if_pos (by omega)]
  cases st.testBit i <;> rfl
theorem from_l1 (n : Nat) (hn : n ≤ 8) (sw : List S69) (fe : List S71) (hsw : SwOk n sw) (hlen : sw.length ≤ 20) (st a : Nat) (hst : st < 2 ^ 20) (m0 : Nat)
    (IH : ∀ m, m0 < m → Sound sw st a m → ∃ r, Ev (fun k => dropperref05_from.l0 k (st : Int) (bl n m) true (n : Int) sw fe) (bl n r) ∧ Group sw st a r) :
    ∀ (d i m : Nat) (b : Bool), i + d = sw.length → Sound sw st a m → (b = false → m = m0 ∧ Even sw st m0 i) → (b = true → m0 < m) →
    ∃ r, Ev (fun k => dropperref05_from.l1 k (st : Int) (bl n m) b (i : Int) (n : Int) sw fe) (bl n r) ∧ Group sw st a r := by
  intro d
  induction d with
  | zero =>
    intro i m b hi hs hf ht
    obtain rfl : i = sw.length := by omega
    cases b with
    | true =>
      obtain ⟨r, h1, h2⟩ := IH m (ht rfl) hs
      refine ⟨r, ?_, h2⟩
      refine Ev.step (fun k => by rw [dropperref05_from.l1]) ?_
      exact ev_neg (by omega) h1
    | false =>
      obtain ⟨rfl, he⟩ := hf rfl
      refine ⟨m, ?_, hs, he⟩
      refine Ev.step (fun k => by rw [dropperref05_from.l1]) (ev_neg (by omega) ?_)
      refine Ev.step (fun k => by rw [dropperref05_from.l0]) ?_
      exact ev_neg (by simp) (Ev.now _)
  | succ d ih =>
    intro i m b hi hs hf ht
    have hlt : i < sw.length := by omega
    have hm := hs.1
    obtain ⟨x0, x1, y0, y1, hxy⟩ := hsw sw[i] (List.getElem_mem hlt)
    obtain ⟨x, hx⟩ := Int.eq_ofNat_of_zero_le x0
    obtain ⟨y, hy⟩ := Int.eq_ofNat_of_zero_le y0
    have hxn : x < n := by omega
    have hyn : y < n := by omega
    have hL := bl_len n m
    have keep : ∀ (hE : st.testBit i = true → m.testBit x = m.testBit y), b = false → m = m0 ∧ Even sw st m0 (i + 1) := by
      intro hE hb
      obtain ⟨rfl, he⟩ := hf hb
      refine ⟨rfl, fun j hj hji hjb => ?_⟩
      by_cases h : j < i
      · exact he j hj h hjb
      · obtain rfl : j = i := by omega
        rw [hx, hy, Int.toNat_natCast, Int.toNat_natCast]
        exact hE hjb
    have rx := rd_bl (m := m) hxn
    have ry := rd_bl (m := m) hyn
    by_cases hbit : st.testBit i = true
    · by_cases hxy2 : m.testBit x = m.testBit y
      · obtain ⟨r, h1, h2⟩ := ih (i + 1) m b (by omega) hs (keep fun _ => hxy2) ht
        refine ⟨r, ?_, h2⟩
        refine Ev.step (fun k => by rw [dropperref05_from.l1]) ?_
        rw [rd_S69 sw i hlt, hx, hy, closed_f (by omega) (by omega), hbit, rx, ry, wrap_succ i (by omega), hL]
        exact ev_pos (by omega) (ev_pos (by omega) (ev_some (ev_pos rfl (ev_pos (by omega) (ev_pos (by omega) (ev_pos (by omega) (ev_pos (by omega) (ev_neg (by simp [hxy2]) h1))))))))
      · have hor : m.testBit x = true ∨ m.testBit y = true := by
          cases hq1 : m.testBit x <;> cases hq2 : m.testBit y <;> simp [hq1, hq2] at hxy2 ⊢
        have ha : m &&& two x y ≠ two x y := fun e => by
          have := and_two_all.1 e
          exact hxy2 (this.1.trans this.2.symm)
        have hgt := or_gt ha
        have hm0 : m0 < m ||| two x y := by
          cases b with
          | true => have := ht rfl; omega
          | false => have := (hf rfl).1; omega
        obtain ⟨r, h1, h2⟩ := ih (i + 1) (m ||| two x y) true (by omega) (or_two_sound hs hlt hbit hx hy (by omega) (by omega) hor) (fun h => by cases h) (fun _ => hm0)
        refine ⟨r, ?_, h2⟩
        refine Ev.step (fun k => by rw [dropperref05_from.l1]) ?_
        rw [rd_S69 sw i hlt, hx, hy, closed_f (by omega) (by omega), hbit, rx, ry, wrap_succ i (by omega), hL, Int.toNat_natCast, Int.toNat_natCast, bl_set2 hxn hyn]
        exact ev_pos (by omega) (ev_pos (by omega) (ev_some (ev_pos rfl (ev_pos (by omega) (ev_pos (by omega) (ev_pos (by omega) (ev_pos (by omega) (ev_pos (by simpa using hxy2) h1))))))))
    · obtain ⟨r, h1, h2⟩ := ih (i + 1) m b (by omega) hs (keep fun h => absurd h hbit) ht
      refine ⟨r, ?_, h2⟩
      refine Ev.step (fun k => by rw [dropperref05_from.l1]) ?_
      rw [closed_f (by omega) (by omega), wrap_succ i (by omega)]
      exact ev_pos (by omega) (ev_pos (by omega) (ev_some (ev_neg hbit h1)))
theorem from_l0 (n : Nat) (hn : n ≤ 8) (sw : List S69) (fe : List S71) (hsw : SwOk n sw) (hlen : sw.length ≤ 20) (st a : Nat) (hst : st < 2 ^ 20) :
    ∀ (q m : Nat), 256 - m ≤ q → Sound sw st a m → ∃ r, Ev (fun k => dropperref05_from.l0 k (st : Int) (bl n m) true (n : Int) sw fe) (bl n r) ∧ Group sw st a r := by
  intro q
  induction q with
  | zero => intro m hq hs; have := hs.1; omega
  | succ q ih =>
    intro m hq hs
    have hm := hs.1
    obtain ⟨r, h1, h2⟩ := from_l1 n hn sw fe hsw hlen st a hst m (fun m' hm' hs' => ih m' (by omega) hs') sw.length 0 m false (by omega) hs (fun _ => ⟨rfl, fun j hj hji => by omega⟩) (fun h => by cases h)
    refine ⟨r, ?_, h2⟩
    refine Ev.step (fun k => by rw [dropperref05_from.l0]) ?_
    exact ev_pos rfl h1
theorem from_ev (n : Nat) (hn : n ≤ 8) (sw : List S69) (fe : List S71) (hsw : SwOk n sw) (hlen : sw.length ≤ 20) (st a : Nat) (hst : st < 2 ^ 20) (ha : a < n) :
    ∃ r : Nat, Ev (fun k => dropperref05_from.f k (n : Int) sw fe (st : Int) (a : Int)) (bl n r) ∧ r < 256 ∧ ∀ j, r.testBit j = true ↔ Conn sw st a j := by
  have hs : Sound sw st a (1 <<< a) := by
    refine ⟨by rw [Nat.one_shiftLeft]; exact Nat.lt_of_lt_of_le (Nat.pow_lt_pow_right (by decide) (show a < 8 by omega)) (by decide), by rw [Nat.one_shiftLeft, Nat.testBit_two_pow]; simp, fun j hj => ?_⟩
    rw [Nat.one_shiftLeft, Nat.testBit_two_pow] at hj
    obtain rfl : a = j := by simpa using hj
    exact Conn.refl
  obtain ⟨r, h1, h2⟩ := from_l0 n hn sw fe hsw hlen st a hst 256 (1 <<< a) (Nat.sub_le _ _) hs
  refine ⟨r, ?_, h2.1.1, fun j => ⟨h2.1.2.2 j, fun h => conn_of_even h2.1 h2.2 h⟩⟩
  unfold dropperref05_from.f
  have e : (List.replicate n false).set a true = bl n (1 <<< a) := by
    apply List.ext_getElem
    · simp [bl]
    · intro i h1 h2
      simp only [bl, List.getElem_set, List.getElem_map, List.getElem_range, List.getElem_replicate, Nat.one_shiftLeft, Nat.testBit_two_pow]
      by_cases h : a = i <;> simp [h]
  have hL : (List.replicate n false).length = n := List.length_replicate
  rw [Int.toNat_natCast, Int.toNat_natCast]
  refine ev_pos (by omega) (ev_pos (by omega) (ev_some ?_))
  refine ev_pos (by omega) (ev_pos (by rw [hL]; omega) ?_)
  rw [e]
  exact h1

theorem mask_new {sw : List S69} {st : Nat} {i : Nat} : Mask sw st [] i 0 := ⟨by decide, fun p => by simp⟩
theorem lv_or : ∀ m : Nat, m < 16 → ∀ q : Nat, q < 4 → m.testBit 0 = false → 1 ≤ q → lv (m ||| 1 <<< q) = if lv m = 0 then (q : Int) else if lv m = q then lv m else -1 := by decide +kernel
theorem FeOk.take {n : Nat} {fe : List S71} (h : FeOk n fe) (q : Nat) : FeOk n (fe.take q) := fun f hf => h f (List.mem_of_mem_take hf)
def MarkAt (sw : List S69) (st : Nat) (fs : List S71) (i : Nat) (v : Int) : Prop := ∃ m, v = lv m ∧ Mask sw st fs i m
theorem rlive_l1 (n : Nat) (hn : n ≤ 8) (sw : List S69) (fe : List S71) (hfe : FeOk n fe) (hfl : fe.length ≤ 20) (st : Nat) (q : Nat) (hq : q < fe.length) (g : Nat) (hg : g < 256) (hgc : ∀ j, g.testBit j = true ↔ Conn sw st fe[q].f0.toNat j)
    (hend : ∀ l', Mark sw st n (fe.take (q + 1)) l' → ∃ r, Ev (fun k => dropperref05_live.l0 k (st : Int) l' ((q + 1 : Nat) : Int) (n : Int) sw fe) r ∧ Mark sw st n fe r) :
    ∀ (d i : Nat) (l : List Int), i + d = n → l.length = n → (∀ j, j < n → MarkAt sw st (if j < i then fe.take (q + 1) else fe.take q) j (rd l (j : Int))) →
    ∃ r, Ev (fun k => dropperref05_live.l1 k (st : Int) l (q : Int) (bl n g) (i : Int) (n : Int) sw fe) r ∧ Mark sw st n fe r := by
  have htk : fe.take (q + 1) = fe.take q ++ [fe[q]] := List.take_succ_eq_append_getElem hq
  obtain ⟨f0, f1, f2, f3⟩ := hfe fe[q] (List.getElem_mem hq)
  obtain ⟨p, hp⟩ := Int.eq_ofNat_of_zero_le (show 0 ≤ fe[q].f1 by omega)
  have hL := bl_len n g
  intro d
  induction d with
  | zero =>
    intro i l hi hl hm
    obtain rfl : i = n := by omega
    obtain ⟨r, h1, h2⟩ := hend l ⟨hl, fun j hj => by
      have h := hm j hj
      rw [if_pos hj] at h
      exact h⟩
    refine ⟨r, ?_, h2⟩
    refine Ev.step (fun k => by rw [dropperref05_live.l1]) ?_
    rw [wrap_succ q (by omega)]
    exact ev_neg (by omega) h1
  | succ d ih =>
    intro i l hi hl hm
    obtain ⟨m, e, h⟩ := hm i (by omega)
    rw [if_neg (by omega)] at h
    have hm16 := h.1
    have hm0 := mask_zero (n := n) (hfe.take q) h
    have rg := rd_bl (m := g) (show i < n by omega)
    have next : ∀ l' : List Int, l'.length = n → (∀ j, j < n → j ≠ i → rd l' (j : Int) = rd l (j : Int)) → MarkAt sw st (fe.take (q + 1)) i (rd l' (i : Int)) →
        ∃ r, Ev (fun k => dropperref05_live.l1 k (st : Int) l' (q : Int) (bl n g) ((i + 1 : Nat) : Int) (n : Int) sw fe) r ∧ Mark sw st n fe r := by
      intro l' hl' hne hat
      refine ih (i + 1) l' (by omega) hl' (fun j hj => ?_)
      by_cases hji : j = i
      · subst hji; rw [if_pos (by omega)]; exact hat
      · rw [hne j hj hji]
        have h' := hm j hj
        by_cases hlt : j < i
        · rw [if_pos hlt] at h'; rw [if_pos (by omega)]; exact h'
        · rw [if_neg hlt] at h'; rw [if_neg (by omega)]; exact h'
    by_cases hc : g.testBit i = true
    · have hcc := (hgc i).1 hc
      have hmy := mask_yes h hcc hp (by omega)
      rw [← htk] at hmy
      have hlo := lv_or m hm16 p (by omega) hm0 (by omega)
      by_cases h0 : rd l (i : Int) = 0
      · obtain ⟨r, h1, h2⟩ := next (l.set i (p : Int)) (by rw [List.length_set]; exact hl) (fun j hj hji => by rw [rd_set _ _ _ _ (by omega), if_neg hji]) ⟨m ||| 1 <<< p, by rw [rd_set _ _ _ _ (by omega), if_pos rfl, hlo, if_pos (by rw [← e]; exact h0)], hmy⟩
        refine ⟨r, ?_, h2⟩
        refine Ev.step (fun k => by rw [dropperref05_live.l1]) ?_
        rw [rd_S71 fe q hq, hp, rg, hc, wrap_succ i (by omega), hL, hl, Int.toNat_natCast]
        exact ev_pos (by omega) (ev_pos (by omega) (ev_pos (by omega) (ev_pos (by omega) (ev_pos (by omega) (ev_pos rfl (ev_pos (by omega) (ev_pos h0 h1)))))))
      · by_cases h1p : rd l (i : Int) = (p : Int)
        · obtain ⟨r, h1, h2⟩ := next l hl (fun j hj hji => rfl) ⟨m ||| 1 <<< p, by rw [hlo, ← e, if_neg h0, if_pos h1p], hmy⟩
          refine ⟨r, ?_, h2⟩
          refine Ev.step (fun k => by rw [dropperref05_live.l1]) ?_
          rw [rd_S71 fe q hq, hp, rg, hc, wrap_succ i (by omega), hL, hl]
          exact ev_pos (by omega) (ev_pos (by omega) (ev_pos (by omega) (ev_pos (by omega) (ev_pos (by omega) (ev_pos rfl (ev_pos (by omega) (ev_neg h0 (ev_pos h1p h1))))))))
        · obtain ⟨r, h1, h2⟩ := next (l.set i (-1)) (by rw [List.length_set]; exact hl) (fun j hj hji => by rw [rd_set _ _ _ _ (by omega), if_neg hji]) ⟨m ||| 1 <<< p, by rw [rd_set _ _ _ _ (by omega), if_pos rfl, hlo, ← e, if_neg h0, if_neg h1p], hmy⟩
          refine ⟨r, ?_, h2⟩
          refine Ev.step (fun k => by rw [dropperref05_live.l1]) ?_
          rw [rd_S71 fe q hq, hp, rg, hc, wrap_succ i (by omega), hL, hl, Int.toNat_natCast]
          exact ev_pos (by omega) (ev_pos (by omega) (ev_pos (by omega) (ev_pos (by omega) (ev_pos (by omega) (ev_pos rfl (ev_pos (by omega) (ev_neg h0 (ev_neg h1p h1))))))))
    · have hmn := mask_no h (fun hx => hc ((hgc i).2 hx))
      rw [← htk] at hmn
      obtain ⟨r, h1, h2⟩ := next l hl (fun j hj hji => rfl) ⟨m, e, hmn⟩
      refine ⟨r, ?_, h2⟩
      refine Ev.step (fun k => by rw [dropperref05_live.l1]) ?_
      rw [rg, wrap_succ i (by omega), hL, hl]
      exact ev_pos (by omega) (ev_pos (by omega) (ev_pos (by omega) (ev_pos (by omega) (ev_pos (by omega) (ev_neg hc h1)))))
theorem rlive_l0 (n : Nat) (hn : n ≤ 8) (sw : List S69) (hsw : SwOk n sw) (hlen : sw.length ≤ 20) (fe : List S71) (hfe : FeOk n fe) (hfl : fe.length ≤ 20) (st : Nat) (hst : st < 2 ^ 20) :
    ∀ (d q : Nat) (l : List Int), q + d = fe.length → Mark sw st n (fe.take q) l → ∃ r, Ev (fun k => dropperref05_live.l0 k (st : Int) l (q : Int) (n : Int) sw fe) r ∧ Mark sw st n fe r := by
  intro d
  induction d with
  | zero =>
    intro q l hq hl
    obtain rfl : q = fe.length := by omega
    rw [List.take_length] at hl
    refine ⟨l, ?_, hl⟩
    refine Ev.step (fun k => by rw [dropperref05_live.l0]) ?_
    exact ev_neg (by omega) (Ev.now _)
  | succ d ih =>
    intro q l hq hl
    have hlt : q < fe.length := by omega
    obtain ⟨f0, f1, f2, f3⟩ := hfe fe[q] (List.getElem_mem hlt)
    obtain ⟨g, hg1, hg2, hg3⟩ := from_ev n hn sw fe hsw hlen st fe[q].f0.toNat hst (by omega)
    rw [Int.toNat_of_nonneg f0] at hg1
    obtain ⟨r, h1, h2⟩ := rlive_l1 n hn sw fe hfe hfl st q hlt g hg2 hg3 (fun l' hl' => ih (q + 1) l' (by omega) hl') n 0 l (by omega) hl.1 (fun j hj => by rw [if_neg (by omega)]; exact hl.2 j hj)
    refine ⟨r, ?_, h2⟩
    refine Ev.step (fun k => by rw [dropperref05_live.l0]) ?_
    rw [rd_S71 fe q hlt]
    exact ev_pos (by omega) (ev_pos (by omega) (Ev.bind hg1 h1))
theorem rlive_ev (n : Nat) (hn : n ≤ 8) (sw : List S69) (hsw : SwOk n sw) (hlen : sw.length ≤ 20) (fe : List S71) (hfe : FeOk n fe) (hfl : fe.length ≤ 20) (st : Nat) (hst : st < 2 ^ 20) :
    ∃ r, Ev (fun k => dropperref05_live.f k (n : Int) sw fe (st : Int)) r ∧ Mark sw st n fe r := by
  obtain ⟨r, h1, h2⟩ := rlive_l0 n hn sw hsw hlen fe hfe hfl st hst fe.length 0 (List.replicate n 0) (by omega) ⟨List.length_replicate, fun i hi => ⟨0, by simp [rd, hi, lv, cn], mask_new⟩⟩
  refine ⟨r, ?_, h2⟩
  unfold dropperref05_live.f
  rw [Int.toNat_natCast]
  exact ev_pos (by omega) (ev_pos (by omega) h1)
theorem mark_unique {sw : List S69} {st n : Nat} {fe : List S71} {l l' : List Int} (h : Mark sw st n fe l) (h' : Mark sw st n fe l') : l = l' := by
  apply List.ext_getElem (h.1.trans h'.1.symm)
  intro i h1 h2
  obtain ⟨m, e, k⟩ := h.2 i (by have := h.1; omega)
  obtain ⟨m', e', k'⟩ := h'.2 i (by have := h.1; omega)
  obtain rfl := mask_unique k k'
  have e1 : rd l (i : Int) = l[i] := by simp [rd, List.getD_eq_getElem?_getD, h1]
  have e2 : rd l' (i : Int) = l'[i] := by simp [rd, List.getD_eq_getElem?_getD, h2]
  rw [← e1, ← e2, e, e']
theorem GridOk.swn {n : Nat} {sw : List S69} {fe : List S71} (h : GridOk (n : Int) sw fe) : SwOk n sw := fun s hs => by
  have := h.2.2.2.2.1 s hs
  unfold SwIs at *
  omega
theorem pow_le10 {n : Nat} {sw : List S69} {fe : List S71} (h : GridOk (n : Int) sw fe) : 2 ^ sw.length ≤ 2 ^ 10 := Nat.pow_le_pow_right (by decide) h.2.2.1
/-- the marks of the sections in a state -/
noncomputable def marks (sw : List S69) (st n : Nat) (fe : List S71) : List Int := open Classical in if h : ∃ l, Mark sw st n fe l then Classical.choose h else []
theorem marks_of {sw : List S69} {st n : Nat} {fe : List S71} {l : List Int} (h : Mark sw st n fe l) : marks sw st n fe = l := by
  have hx : ∃ l, Mark sw st n fe l := ⟨l, h⟩
  unfold marks
  rw [dif_pos hx]
  exact mark_unique (Classical.choose_spec hx) h
section
variable {n : Nat} {sw : List S69} {fe : List S71} (h : GridOk (n : Int) sw fe) {st : Nat} (hst : st < 2 ^ sw.length)
include h hst
theorem marks_mark : Mark sw st n fe (marks sw st n fe) := by
  have hp := pow_le10 h
  obtain ⟨r, h1, h2⟩ := rlive_ev n (by have := h.2.1; omega) sw h.swn (by have := h.2.2.1; omega) fe h.fe (by have := h.2.2.2.1; omega) st (by omega)
  rw [marks_of h2]; exact h2
theorem rlive_val : Ev (fun k => dropperref05_live.f k (n : Int) sw fe (st : Int)) (marks sw st n fe) := by
  have hp := pow_le10 h
  obtain ⟨r, h1, h2⟩ := rlive_ev n (by have := h.2.1; omega) sw h.swn (by have := h.2.2.1; omega) fe h.fe (by have := h.2.2.2.1; omega) st (by omega)
  rw [marks_of h2]; exact h1
theorem live_val : Ev (fun k => feed_grid_live.f k (n : Int) sw fe (st : Int)) (marks sw st n fe) := by
  have hp := pow_le10 h
  obtain ⟨r, h1, h2⟩ := live_ev n (by have := h.2.1; omega) sw h.sw8 (by have := h.2.2.1; omega) fe h.fe (by have := h.2.2.2.1; omega) st (by omega)
  rw [marks_of h2]; exact h1
theorem marks_len : (marks sw st n fe).length = n := (marks_mark h hst).1
theorem marks_ge : ∀ v ∈ marks sw st n fe, -1 ≤ v ∧ v ≤ 3 := by
  intro v hv
  obtain ⟨i, hi, rfl⟩ := List.mem_iff_getElem.1 hv
  obtain ⟨m, e, k⟩ := (marks_mark h hst).2 i (by have := marks_len h hst; omega)
  have e1 : rd (marks sw st n fe) (i : Int) = (marks sw st n fe)[i] := by simp [rd, List.getD_eq_getElem?_getD, hi]
  rw [← e1, e]
  have : ∀ m : Nat, m < 16 → -1 ≤ lv m ∧ lv m ≤ 3 := by decide +kernel
  exact this m k.1
end
end Go.Proofs.YtoilhnmdemnknaaDoor.Plain

/- The exported functions of the program and of the document's answer, by the marks of the sections. -/
namespace Go.Proofs.YtoilhnmdemnknaaDoor.Plain
set_option linter.unusedVariables false
set_option linter.unusedSimpArgs false
open Go.RowKit Go.Proofs.YtoilhnmdemnknaaDoor.XFeed Go.Proofs.YtoilhnmdemnknaaDoorW.PrintWords Go.Proofs.YtoilhnmdemnknaaDoorW.PrintLast Go.Proofs.YtoilhnmdemnknaaDoorW.PrintMore
open Classical

theorem shl_one (n : Nat) (h : n ≤ 20) : shl .i64 1 (n : Int) = ((2 ^ n : Nat) : Int) := by
  have : 2 ^ n ≤ 2 ^ 20 := Nat.pow_le_pow_right (by decide) h
  rw [show (1 : Int) = ((1 : Nat) : Int) from rfl, shl_i (by omega) (by omega), Nat.one_shiftLeft]
theorem large_f (N : Int) (sw : List S69) (fe : List S71) (l : List Int) :
    dropperlaw05_Large.f N sw fe l = some (decide (20 < sw.length ∨ 20 < fe.length ∨ 1100 < l.length)) := by
  unfold dropperlaw05_Large.f
  by_cases h1 : (sw.length : Int) > 20
  · rw [if_pos h1, decide_eq_true (by omega)]
  rw [if_neg h1]
  by_cases h2 : (fe.length : Int) > 20
  · rw [if_pos h2, decide_eq_true (by omega)]
  rw [if_neg h2]
  congr 1
  rw [decide_eq_decide]
  omega
theorem same_l0 (l : List Int) (hl : l.length ≤ 4000000000000000000) : ∀ (d i : Nat), i + d = l.length → Ev (fun k => dropperlaw05_SameInts.l0 k l l (i : Int)) true := by
  intro d
  induction d with
  | zero =>
    intro i hi
    refine Ev.step (fun k => by rw [dropperlaw05_SameInts.l0]) ?_
    exact ev_neg (by omega) (Ev.now _)
  | succ d ih =>
    intro i hi
    refine Ev.step (fun k => by rw [dropperlaw05_SameInts.l0]) ?_
    rw [wrap_succ i (by omega)]
    exact ev_pos (by omega) (ev_pos (by omega) (ev_pos (by omega) (ev_pos rfl (ih (i + 1) (by omega)))))
theorem same_ev (l : List Int) (hl : l.length ≤ 4000000000000000000) : Ev (fun k => dropperlaw05_SameInts.f k l l) true := by
  unfold dropperlaw05_SameInts.f
  exact ev_pos rfl (same_l0 l hl l.length 0 (by omega))
/-- the error of a grid and a state -/
noncomputable def errG (N : Int) (sw : List S69) (fe : List S71) (st : Int) : Int := if GridOk N sw fe then (if 0 ≤ st ∧ st < ((2 ^ sw.length : Nat) : Int) then 0 else 51) else 50
theorem errG_zero {N : Int} {sw : List S69} {fe : List S71} {st : Int} : errG N sw fe st = 0 ↔ GridOk N sw fe ∧ 0 ≤ st ∧ st < ((2 ^ sw.length : Nat) : Int) := by
  unfold errG
  by_cases h : GridOk N sw fe
  · rw [if_pos h]
    by_cases h2 : 0 ≤ st ∧ st < ((2 ^ sw.length : Nat) : Int)
    · rw [if_pos h2]; exact iff_of_true rfl ⟨h, h2⟩
    · rw [if_neg h2]; exact iff_of_false (by decide) (fun e => h2 e.2)
  · rw [if_neg h]; exact iff_of_false (by decide) (fun e => h e.1)
/-- a grid and a state as described, as natural numbers -/
theorem errG_nat {N : Int} {sw : List S69} {fe : List S71} {st : Int} (h : errG N sw fe st = 0) :
    ∃ n s : Nat, N = (n : Int) ∧ st = (s : Int) ∧ GridOk (n : Int) sw fe ∧ s < 2 ^ sw.length := by
  obtain ⟨h1, h2, h3⟩ := errG_zero.1 h
  obtain ⟨n, rfl⟩ := Int.eq_ofNat_of_zero_le (show 0 ≤ N by have := h1.1; omega)
  obtain ⟨s, rfl⟩ := Int.eq_ofNat_of_zero_le h2
  exact ⟨n, s, rfl, rfl, h1, by omega⟩
theorem open_g (N : Int) (sw : List S69) (fe : List S71) (st : Int) : feed_open.f N sw fe st = some (N, errG N sw fe st) := open_f N sw fe st
theorem rasked_ev (N : Int) (sw : List S69) (fe : List S71) (hl : sw.length ≤ 20) (st : Int) : Ev (fun k => dropperref05_asked.f k N sw fe st) (errG N sw fe st) := by
  unfold dropperref05_asked.f
  refine Ev.bind (rvalid_ev N sw fe) ?_
  by_cases h : GridOk N sw fe
  · refine ev_pos (decide_eq_true h) ?_
    unfold dropperref05_IsState.f errG
    rw [shl_one _ hl, if_pos h]
    by_cases h0 : st ≥ 0
    · rw [if_pos h0]
      by_cases h1 : st < ((2 ^ sw.length : Nat) : Int)
      · rw [if_pos ⟨h0, h1⟩]
        exact ev_some (ev_pos (decide_eq_true h1) (Ev.now _))
      · rw [if_neg (fun e => h1 e.2)]
        exact ev_some (ev_neg (by simpa using h1) (Ev.now _))
    · rw [if_neg h0, if_neg (fun e => h0 e.1)]
      exact ev_some (ev_neg (by simp) (Ev.now _))
  · refine ev_neg (by simpa using h) ?_
    unfold errG
    rw [if_neg h]
    exact Ev.now _
theorem rd_get {l : List Int} {i : Nat} (h : i < l.length) : rd l (i : Int) = l[i] := by simp [rd, List.getD_eq_getElem?_getD, h]
section
variable {n : Nat} {sw : List S69} {fe : List S71} (h : GridOk (n : Int) sw fe) {st : Nat} (hst : st < 2 ^ sw.length)
include h hst
end
theorem errG_at0 (N : Int) (sw : List S69) (fe : List S71) : errG N sw fe 0 = if GridOk N sw fe then 0 else 50 := by
  have hp : 0 < 2 ^ sw.length := Nat.pow_pos (by decide)
  unfold errG
  by_cases h : GridOk N sw fe
  · rw [if_pos h, if_pos h, if_pos (by omega)]
  · rw [if_neg h, if_neg h]
end Go.Proofs.YtoilhnmdemnknaaDoor.Plain

/- Isolations: which lists are some, and the fewest. -/
namespace Go.Proofs.YtoilhnmdemnknaaDoor.Plain
set_option linter.unusedVariables false
set_option linter.unusedSimpArgs false
open Go.RowKit Go.Proofs.YtoilhnmdemnknaaDoor.XFeed Go.Proofs.YtoilhnmdemnknaaDoorW.PrintWords Go.Proofs.YtoilhnmdemnknaaDoorW.PrintLast Go.Proofs.YtoilhnmdemnknaaDoorW.PrintMore
open Classical

/-! what is left of a number without the bits of another one -/
theorem gb {x i : Nat} (hi : i < 64) : (BitVec.ofNat 64 x)[i] = x.testBit i := by
  rw [← BitVec.getLsbD_eq_getElem, BitVec.getLsbD_ofNat]; simp [hi]
/-! a section is dead -/
section
variable {n : Nat} {sw : List S69} {fe : List S71} (h : GridOk (n : Int) sw fe) {st : Nat} (hst : st < 2 ^ sw.length)
include h hst
end

/-! the lists -/
/-- what stands in front of an index -/
def before (l : List Int) (i : Nat) : Int := if i = 0 then -1 else rd l ((i - 1 : Nat) : Int)
section
variable {n : Nat} {sw : List S69} {fe : List S71} (h : GridOk (n : Int) sw fe) {st : Nat} (hst : st < 2 ^ sw.length) {sec : Nat} (hsec : sec < n) (l : List Int) (hl : l.length ≤ 4000000000000000000)
include h hst hsec hl
end
/-! the error of a grid, a state and a section -/
theorem bad_iff {N : Int} (h1 : 1 ≤ N) (h2 : N ≤ 8) (x : Int) : feed_grid_section.bad N x = !decide (0 ≤ x ∧ x < N) := by
  unfold feed_grid_section.bad
  rw [wrap_id (by omega) (by omega), Bool.eq_iff_iff]
  simp; omega
end Go.Proofs.YtoilhnmdemnknaaDoor.Plain

namespace Go.Proofs.YtoilhnmdemnknaaDoor.Plain
open Go.RowKit Go.Proofs.YtoilhnmdemnknaaDoor.XFeed Go.Proofs.YtoilhnmdemnknaaDoorW.PrintWords Go.Proofs.YtoilhnmdemnknaaDoorW.PrintLast Go.Proofs.YtoilhnmdemnknaaDoorW.PrintMore
theorem first_at : dropperlaw05_First.f 200 = some true := by kernel_rfl
theorem first_ev : Ev (fun k => dropperlaw05_First.f k) true := Ev.of (dropperlaw05_First.mono) first_at
end Go.Proofs.YtoilhnmdemnknaaDoor.Plain

/- Which sections are joined in a state, and with which phases all are fed: by the connectedness of sections over closed switches. No condition but the statement's own. -/
namespace Go.Proofs.YtoilhnmdemnknaaDoor.Pure
set_option linter.unusedVariables false
set_option linter.unusedSimpArgs false
open Go.RowKit Go.Proofs.YtoilhnmdemnknaaDoor.XFeed Go.Proofs.YtoilhnmdemnknaaDoorW.PrintWords Go.Proofs.YtoilhnmdemnknaaDoorW.PrintLast Go.Proofs.YtoilhnmdemnknaaDoorW.PrintMore
open Go.Proofs.YtoilhnmdemnknaaDoor.Plain
open Classical

noncomputable def joinE (N : Int) (sw : List S69) (fe : List S71) (st a b : Int) : Int := if errG N sw fe st = 0 then (if (0 ≤ a ∧ a < N) ∧ (0 ≤ b ∧ b < N) then 0 else 2) else errG N sw fe st
noncomputable def joinR (N : Int) (sw : List S69) (fe : List S71) (st a b : Int) : Bool := decide (joinE N sw fe st a b = 0 ∧ Conn sw st.toNat a.toNat b.toNat)
theorem join_val (N : Int) (sw : List S69) (fe : List S71) (hl : sw.length ≤ 20) (st a b : Int) :
    Ev (fun k => feed_Joined.f k N sw fe st a b) (joinR N sw fe st a b, joinE N sw fe st a b) ∧ Ev (fun k => dropperref05_Joined.f k N sw fe st a b) (joinR N sw fe st a b, joinE N sw fe st a b) := by
  unfold feed_Joined.f dropperref05_Joined.f
  rw [open_g]
  by_cases h : errG N sw fe st = 0
  · have hz := h
    obtain ⟨n, s, rfl, rfl, hg, hs⟩ := errG_nat h
    have hp := pow_le10 hg
    have e1 : joinE (n : Int) sw fe (s : Int) a b = if (0 ≤ a ∧ a < (n : Int)) ∧ (0 ≤ b ∧ b < (n : Int)) then 0 else 2 := by unfold joinE; rw [if_pos hz]
    have es : feed_grid_section.f (n : Int) sw fe [a, b] = some (joinE (n : Int) sw fe (s : Int) a b) := by
      unfold feed_grid_section.f
      simp only [List.any_cons, List.any_nil, Bool.or_false]
      rw [bad_iff hg.1 hg.2.1, bad_iff hg.1 hg.2.1, e1]
      congr 1
      by_cases ha : 0 ≤ a ∧ a < (n : Int)
      · by_cases hb : 0 ≤ b ∧ b < (n : Int)
        · have q : (if (0 ≤ a ∧ a < (n : Int)) ∧ (0 ≤ b ∧ b < (n : Int)) then (0 : Int) else 2) = 0 := if_pos ⟨ha, hb⟩
          rw [q, decide_eq_true ha, decide_eq_true hb]; rfl
        · have q : (if (0 ≤ a ∧ a < (n : Int)) ∧ (0 ≤ b ∧ b < (n : Int)) then (0 : Int) else 2) = 2 := if_neg (fun e => hb e.2)
          rw [q, decide_eq_true ha, decide_eq_false hb]; rfl
      · have q : (if (0 ≤ a ∧ a < (n : Int)) ∧ (0 ≤ b ∧ b < (n : Int)) then (0 : Int) else 2) = 2 := if_neg (fun e => ha e.1)
        rw [q, decide_eq_false ha]; rfl
    by_cases hab : (0 ≤ a ∧ a < (n : Int)) ∧ (0 ≤ b ∧ b < (n : Int))
    · rw [if_pos hab] at e1
      obtain ⟨x, rfl⟩ := Int.eq_ofNat_of_zero_le hab.1.1
      obtain ⟨y, rfl⟩ := Int.eq_ofNat_of_zero_le hab.2.1
      have hn := hg.2.1
      constructor
      · obtain ⟨g, g1, g2, g3⟩ := group_ev (n : Int) sw fe hg.sw8 (by have := hg.2.2.1; omega) s x (by omega) (by omega)
        refine ev_some (ev_pos hz ?_)
        rw [es]
        refine ev_some (ev_pos e1 (Ev.bind g1 (ev_pos hab.2.1 (ev_const (congrArg some ?_)))))
        rw [bit_u (by omega) (by omega)]
        refine Prod.ext ?_ rfl
        show (_ == 1) = joinR _ _ _ _ _ _
        unfold joinR
        rw [Int.toNat_natCast, Int.toNat_natCast, Int.toNat_natCast]
        have hg3 := g3 y
        by_cases hc : g.testBit y = true
        · rw [if_pos hc, decide_eq_true ⟨e1, hg3.1 hc⟩]; rfl
        · rw [if_neg hc, decide_eq_false (fun e => hc (hg3.2 e.2))]; rfl
      · obtain ⟨g, g1, g2, g3⟩ := from_ev n (by omega) sw fe hg.swn (by have := hg.2.2.1; omega) s x (by omega) (by omega)
        have hbl := bl_len n g
        refine Ev.bind (rasked_ev _ sw fe hl _) (ev_pos hz ?_)
        rw [section_f, section_f]
        refine ev_some (ev_pos (decide_eq_true hab.1) (ev_some (ev_pos (decide_eq_true hab.2) (Ev.bind g1 (ev_pos hab.2.1 (ev_pos (by rw [hbl]; omega) (ev_const (congrArg some ?_))))))))
        rw [rd_bl (by omega)]
        refine Prod.ext ?_ e1.symm
        show _ = joinR _ _ _ _ _ _
        unfold joinR
        rw [Int.toNat_natCast, Int.toNat_natCast, Int.toNat_natCast, Bool.eq_iff_iff, decide_eq_true_eq, g3 y]
        exact ⟨fun hc => ⟨e1, hc⟩, fun hc => hc.2⟩
    · rw [if_neg hab] at e1
      have er : joinR (n : Int) sw fe (s : Int) a b = false := by unfold joinR; rw [e1]; exact decide_eq_false (fun e => by have := e.1; omega)
      rw [er]
      constructor
      · refine ev_some (ev_pos hz ?_)
        rw [es]
        exact ev_some (ev_neg (by rw [e1]; decide) (Ev.now _))
      · refine Ev.bind (rasked_ev _ sw fe hl _) (ev_pos hz ?_)
        rw [section_f, section_f, e1]
        by_cases ha : 0 ≤ a ∧ a < (n : Int)
        · exact ev_some (ev_pos (decide_eq_true ha) (ev_some (ev_neg (by simp only [decide_eq_true_eq]; exact fun hb => hab ⟨ha, hb⟩) (Ev.now _))))
        · exact ev_some (ev_neg (by simp only [decide_eq_true_eq]; exact ha) (Ev.now _))
  · have e1 : joinE N sw fe st a b = errG N sw fe st := by unfold joinE; rw [if_neg h]
    have er : joinR N sw fe st a b = false := by unfold joinR; exact decide_eq_false (fun e => h (by rw [← e1]; exact e.1))
    rw [er, e1]
    exact ⟨ev_some (ev_neg h (Ev.now _)), Ev.bind (rasked_ev _ sw fe hl _) (ev_neg h (Ev.now _))⟩

/-- the marks with 1 for 0 -/
def pm (l : List Int) (i : Nat) : List Int := (l.take i).map (fun v => mx v 1) ++ l.drop i
theorem pm_len (l : List Int) (i : Nat) (h : i ≤ l.length) : (pm l i).length = l.length := by simp [pm]; omega
theorem pm_get {l : List Int} {i : Nat} (h : i < l.length) : rd (pm l i) (i : Int) = l[i] := by
  have e : (pm l i)[i]'(by rw [pm_len l i (by omega)]; exact h) = l[i] := by
    unfold pm
    rw [List.getElem_append_right (by simp; omega)]
    simp [List.length_take, Nat.min_eq_left (Nat.le_of_lt h)]
  rw [rd_get (by rw [pm_len l i (by omega)]; exact h), e]
theorem pm_set {l : List Int} {i : Nat} (h : i < l.length) : (pm l i).set i (mx l[i] 1) = pm l (i + 1) := by
  unfold pm
  rw [List.drop_eq_getElem_cons h, List.set_append_right _ _ (by simp; omega), show i - ((l.take i).map (fun v => mx v 1)).length = 0 by simp; omega, List.set_cons_zero, List.take_succ_eq_append_getElem h, List.map_append, List.append_assoc]
  rfl
theorem pm_all (l : List Int) : pm l l.length = l.map (fun v => mx v 1) := by simp [pm]
theorem phases_l0 (l : List Int) (hl : l.length ≤ 100) : ∀ (d i : Nat), i + d = l.length → Ev (fun k => feed_Phases.l0 k (pm l i) (l.length : Int) (i : Int)) (l.map (fun v => mx v 1), 0) := by
  intro d
  induction d with
  | zero =>
    intro i hi
    obtain rfl : i = l.length := by omega
    refine Ev.step (fun k => by rw [feed_Phases.l0]) ?_
    rw [pm_all]
    exact ev_neg (by omega) (Ev.now _)
  | succ d ih =>
    intro i hi
    have hlt : i < l.length := by omega
    refine Ev.step (fun k => by rw [feed_Phases.l0]) ?_
    rw [wrap_succ i (by omega), pm_get hlt, Int.toNat_natCast, pm_set hlt, pm_len l i (by omega)]
    exact ev_pos (by omega) (ev_pos (by omega) (ev_pos (by omega) (ih (i + 1) (by omega))))
theorem rphases_l0 (n : Nat) (sw : List S69) (fe : List S71) (l : List Int) (hl : l.length = n) (hn : n ≤ 8) (hb : ∀ v ∈ l, -1 ≤ v) : ∀ (d i : Nat), i + d = n → (∀ j (h : j < l.length), j < i → l[j] ≠ -1) →
    Ev (fun k => dropperref05_Phases.l0 k (pm l i) (i : Int) (n : Int) sw fe) (if (-1 : Int) ∈ l then ([], 5) else (l.map (fun v => mx v 1), 0)) := by
  intro d
  induction d with
  | zero =>
    intro i hi h
    have hno : ¬ (-1 : Int) ∈ l := by
      intro hm
      obtain ⟨j, hj, e⟩ := List.mem_iff_getElem.1 hm
      exact h j hj (by omega) e
    refine Ev.step (fun k => by rw [dropperref05_Phases.l0]) ?_
    refine ev_neg (by omega) ?_
    rw [if_neg hno, show i = l.length by omega, pm_all]
    exact Ev.now _
  | succ d ih =>
    intro i hi h
    have hlt : i < l.length := by omega
    refine Ev.step (fun k => by rw [dropperref05_Phases.l0]) ?_
    rw [wrap_succ i (by omega), pm_get hlt, Int.toNat_natCast, pm_set hlt, pm_len l i (by omega)]
    refine ev_pos (by omega) (ev_pos (by omega) (ev_pos (by omega) ?_))
    have hv := hb _ (List.getElem_mem hlt)
    by_cases h0 : l[i] < 0
    · have e : (-1 : Int) ∈ l := by rw [show (-1 : Int) = l[i] by omega]; exact List.getElem_mem hlt
      refine ev_pos h0 ?_
      rw [if_pos e]
      exact Ev.now _
    · refine ev_neg h0 (ih (i + 1) (by omega) (fun j hj hji => ?_))
      by_cases hji' : j < i
      · exact h j hj hji'
      · obtain rfl : j = i := by omega
        omega
noncomputable def phasesR (N : Int) (sw : List S69) (fe : List S71) : List Int × Int :=
  if GridOk N sw fe then (if (-1 : Int) ∈ marks sw (2 ^ sw.length - 1) N.toNat fe then ([], 5) else ((marks sw (2 ^ sw.length - 1) N.toNat fe).map (fun v => mx v 1), 0)) else ([], 50)
theorem phasesR_len {N : Int} {sw : List S69} {fe : List S71} : (phasesR N sw fe).1.length ≤ 100 := by
  unfold phasesR
  by_cases h : GridOk N sw fe
  · rw [if_pos h]
    split
    · simp
    · obtain ⟨n, rfl⟩ := Int.eq_ofNat_of_zero_le (show 0 ≤ N by have := h.1; omega)
      have hp : 0 < 2 ^ sw.length := Nat.pow_pos (by decide)
      rw [Int.toNat_natCast, List.length_map, marks_len h (by omega)]
      have := h.2.1; omega
  · rw [if_neg h]; simp
theorem phases_val (N : Int) (sw : List S69) (fe : List S71) : Ev (fun k => feed_Phases.f k N sw fe) (phasesR N sw fe) ∧ Ev (fun k => dropperref05_Phases.f k N sw fe) (phasesR N sw fe) := by
  unfold feed_Phases.f dropperref05_Phases.f phasesR
  rw [open_g, errG_at0]
  by_cases h : GridOk N sw fe
  · obtain ⟨n, rfl⟩ := Int.eq_ofNat_of_zero_le (show 0 ≤ N by have := h.1; omega)
    have hp : 0 < 2 ^ sw.length := Nat.pow_pos (by decide)
    have hp10 := pow_le10 h
    have hs : 2 ^ sw.length - 1 < 2 ^ sw.length := by omega
    have hml := marks_len h hs
    have hn := h.2.1
    have ew : wrap64 (((2 ^ sw.length : Nat) : Int) - 1) = ((2 ^ sw.length - 1 : Nat) : Int) := by
      generalize 2 ^ sw.length = P at *
      rw [wrap_id (by omega) (by omega)]; omega
    rw [if_pos h, if_pos h, Int.toNat_natCast, shl_one _ (by have := h.2.2.1; omega), ew]
    have hl := live_val h hs
    have hr := rlive_val h hs
    have hge := fun v hv => (marks_ge h hs v hv).1
    generalize marks sw (2 ^ sw.length - 1) n fe = L at *
    constructor
    · refine ev_some (ev_pos rfl ?_)
      rw [all_f _ _ _ h.2.2.1]
      refine ev_some ?_
      rw [ew]
      refine (Ev.bind hl (Ev.bind (contains_ev L (by omega) (-1)) ?_))
      by_cases hm : (-1 : Int) ∈ L
      · rw [if_pos hm]
        exact ev_pos (decide_eq_true hm) (Ev.now _)
      · rw [if_neg hm]
        exact ev_neg (by simpa using hm) (phases_l0 L (by omega) L.length 0 (by omega))
    · exact Ev.bind (rvalid_ev _ sw fe) (ev_pos (decide_eq_true h) (Ev.bind hr (rphases_l0 n sw fe L hml (by omega) hge n 0 (by omega) (fun j hj h0 => by omega))))
  · rw [if_neg h, if_neg h]
    constructor
    · exact ev_some (ev_neg (show ¬ (50 : Int) = 0 by decide) (Ev.now _))
    · exact Ev.bind (rvalid_ev _ sw fe) (ev_neg (by simpa using h) (Ev.now _))
theorem FeedJoined : dropperlaw05_FeedJoined.Pure := by
  intro N sw fe st a b hN hsw hfe hst ha hb
  refine Ev.rounds ?_
  unfold dropperlaw05_FeedJoined.f
  rw [large_f]
  by_cases hl : 20 < sw.length ∨ 20 < fe.length ∨ 1100 < ([] : List Int).length
  · exact ev_some (ev_pos (decide_eq_true hl) (Ev.bind first_ev (Ev.now _)))
  refine ev_some (ev_neg (by simpa using hl) ?_)
  have hl1 : sw.length ≤ 20 := by omega
  refine Ev.bind (join_val N sw fe hl1 st a b).1 (Ev.bind (join_val N sw fe hl1 st a b).2 (Ev.bind (phases_val N sw fe).1 (Ev.bind (phases_val N sw fe).2 ?_)))
  refine ev_pos (by simp) (ev_pos rfl (Ev.bind (same_ev _ (by have := phasesR_len (N := N) (sw := sw) (fe := fe); omega)) ?_))
  exact ev_pos rfl (ev_pos rfl (Ev.bind first_ev (Ev.now _)))
end Go.Proofs.YtoilhnmdemnknaaDoor.Pure

namespace Go.Proofs.YtoilhnmdemnknaaDoor.Open
open Go.RowKit Go.Proofs.YtoilhnmdemnknaaDoorW.PrintWords Go.Proofs.YtoilhnmdemnknaaDoorW.PrintLast Go.Proofs.YtoilhnmdemnknaaDoorW.PrintMore
set_option linter.unusedVariables false
set_option linter.unusedSimpArgs false
/-! What an argument of a type reads as, in the print's kinds. -/
def Opens {α : Type} (P : Program) (t : TypeId) (kd : Kd α) (G : α → Prop) : Prop :=
  ∀ (H : Type) (enc : TypeId × Value → H) (W : World) (fuel : Nat) (cs : List Value) (x : DataW H × List MemPlace), DataW.trod enc P W 0 (fun _ => true) true fuel t cs = some x → ∃ a, kd.K W a cs ∧ G a
section
variable {P : Program} {t e : TypeId} {α β : Type} {kd : Kd α} {G : α → Prop}
theorem opens_int {k : IntKind} (hu : P.underlying t = some (.int k)) : Opens P t (Kd.int k) (fun n => (Lit.int k n).wf = true) := by
  intro H enc W fuel cs x h
  obtain ⟨n, rfl, _, hw⟩ := DataW.trod_int hu h
  exact ⟨n, rfl, hw⟩
theorem exists_list {Q : Nat → α → Prop} : ∀ n, (∀ i, i < n → ∃ x, Q i x) → ∃ xs : List α, xs.length = n ∧ ∀ i x, xs[i]? = some x → Q i x := by
  intro n
  induction n with
  | zero => intro _; exact ⟨[], rfl, fun i x h => by simp at h⟩
  | succ n ih =>
    intro h
    obtain ⟨xs, hl, hq⟩ := ih (fun i hi => h i (by omega))
    obtain ⟨x, hx⟩ := h n (by omega)
    refine ⟨xs ++ [x], by simp [hl], fun i y hy => ?_⟩
    by_cases hi : i < n
    · rw [List.getElem?_append_left (by omega)] at hy
      exact hq i y hy
    · rw [List.getElem?_append_right (by omega)] at hy
      have : i - xs.length = 0 := by
        have := (List.getElem?_eq_some_iff.1 hy).1
        simp at this; omega
      rw [this] at hy
      have hin : i = n := by omega
      subst hin
      simp at hy
      subst hy
      exact hx
theorem add_add (a : Addr) (m n : Nat) : (a.add m).add n = a.add (m + n) := by
  unfold Addr.add
  by_cases h1 : m = 0
  · subst h1; simp
  · by_cases h2 : n = 0
    · subst h2; simp [h1]
    · have : ¬ m + n = 0 := by omega
      simp [h1, h2, this, Nat.add_assoc]
theorem opens_slice (hu : P.underlying t = some (.slice e)) (he : Opens P e kd G) (hc : P.cellsOf e = kd.sz) : Opens P t (Kd.slice e kd) (fun l => l.length ≤ 9223372036854775807 ∧ ∀ x ∈ l, G x) := by
  intro H enc W fuel cs x h
  rcases DataW.trod_slice hu h with ⟨rfl, _⟩ | ⟨a, len, cap, elems, rest, n, _, rfl, _, hb, hl, hm, hlen, hel, _, _⟩
  · exact ⟨[], ⟨none, 0, rfl, Nat.le_refl _, rfl, by simp, fun h => absurd h (by simp)⟩, by simp, fun x hx => by simp at hx⟩
  · have hx : ∀ i, i < len → ∃ y : α, (∃ c, c.length = kd.sz ∧ kd.K W y c ∧ ∀ j u, c[j]? = some u → W.cell? (a.add (i * kd.sz + j)) = some u) ∧ G y := by
      intro i hi
      have h1 := hel i hi
      rw [List.getElem?_eq_getElem (by omega)] at h1
      obtain ⟨c, hc1, hc2⟩ := Option.bind_eq_some_iff.1 h1
      obtain ⟨y, hk, hg⟩ := he H enc W n c _ hc2
      obtain ⟨_, hcl, hcell⟩ := World.cells?_some hc1
      refine ⟨y, ⟨c, kd.K_len hk, hk, fun j u hj => ?_⟩, hg⟩
      rw [hc] at hcell
      have := hcell j (by have := (List.getElem?_eq_some_iff.1 hj).1; have := kd.K_len hk; omega)
      rw [← add_add, this, hj]
    obtain ⟨xs, hxl, hxq⟩ := exists_list len hx
    have hmax : len ≤ 9223372036854775807 := by unfold maxLen at hm; omega
    refine ⟨xs, ⟨some a, cap, by rw [hxl], by omega, rfl, by omega, fun _ => ⟨a, rfl, fun j p hj => (hxq j p hj).1⟩⟩, by omega, fun y hy => ?_⟩
    obtain ⟨i, hi, rfl⟩ := List.mem_iff_getElem.1 hy
    exact (hxq i xs[i] (List.getElem?_eq_getElem hi)).2
/-- the fields from one on, that lies at a place -/
def OpensF (P : Program) (fs : List Field) (off : Nat) (kd : Kd α) (G : α → Prop) : Prop :=
  ∀ (H : Type) (enc : TypeId × Value → H) (W : World) (fuel : Nat) (cs : List Value) (xs : List (DataW H × List MemPlace)), xs.length = fs.length → cs.length = off + kd.sz →
    (∀ (i : Nat) (f : Field), fs[i]? = some f → DataW.trod enc P W 0 (fun _ => true) true fuel f.type ((cs.drop f.offset).take (P.cellsOf f.type)) = xs[i]?) → ∃ a, kd.K W a (cs.drop off) ∧ G a
theorem opensF_one {f : Field} {off : Nat} (ho : f.offset = off) (hc : P.cellsOf f.type = kd.sz) (h : Opens P f.type kd G) : OpensF P [f] off kd G := by
  intro H enc W fuel cs xs hl hcs hx
  have h0 := hx 0 f rfl
  rw [List.getElem?_eq_getElem (by rw [hl]; simp), ho, hc, List.take_of_length_le (by rw [List.length_drop]; omega)] at h0
  exact h H enc W fuel _ _ h0
theorem opensF_cons {f : Field} {fs : List Field} {off : Nat} {ka : Kd α} {kb : Kd β} {Ga : α → Prop} {Gb : β → Prop} (ho : f.offset = off) (hc : P.cellsOf f.type = ka.sz) (h : Opens P f.type ka Ga) (hr : OpensF P fs (off + ka.sz) kb Gb) :
    OpensF P (f :: fs) off (Kd.pair ka kb) (fun p => Ga p.1 ∧ Gb p.2) := by
  intro H enc W fuel cs xs hl hcs hx
  have hcs' : cs.length = off + (ka.sz + kb.sz) := hcs
  match xs, hl with
  | x0 :: xs', hl =>
    have h0 := hx 0 f rfl
    rw [ho, hc] at h0
    obtain ⟨a, ha, hga⟩ := h H enc W fuel _ x0 h0
    obtain ⟨b, hb, hgb⟩ := hr H enc W fuel cs xs' (by simpa using hl) (by omega) (fun i f' hf' => hx (i + 1) f' (by simpa using hf'))
    refine ⟨(a, b), ⟨_, _, ?_, ha, hb⟩, hga, hgb⟩
    rw [← List.drop_drop, List.take_append_drop]
theorem opens_struct {fs : Array Field} (hu : P.underlying t = some (.struct fs)) (hc : P.cellsOf t = kd.sz) (h : OpensF P fs.toList 0 kd G) : Opens P t kd G := by
  intro H enc W fuel cs x hx
  obtain ⟨xs, n, _, _, hl, hxl, hf⟩ := DataW.trod_struct hu hx
  obtain ⟨a, ha, hg⟩ := h H enc W n cs xs (by rw [hxl]; simp) (by omega) (fun i f hf' => hf i f (by simpa using hf'))
  exact ⟨a, ha, hg⟩
theorem opens_iso {f : β → α} (g : α → β) (hfg : ∀ y, f (g y) = y) (h : Opens P t kd G) : Opens P t (Kd.iso kd f) (fun b => G (f b)) := by
  intro H enc W fuel cs x hx
  obtain ⟨a, ha, hg⟩ := h H enc W fuel cs x hx
  exact ⟨g a, by show kd.K W (f (g a)) cs; rw [hfg]; exact ha, by show G (f (g a)); rw [hfg]; exact hg⟩
theorem okWide_array {n : Nat} {w : World} {r : Reach} {base : Nat} {v : Value} (ht : P.underlying t = some (.array n e)) (h : Value.okWide P w r base t v) : ∃ cs, v = .agg cs ∧ cs.size = P.cellsOf t := by
  simp only [Value.okWide, ht] at h
  obtain ⟨cs, h1, h2, _⟩ := h
  exact ⟨cs, h1, h2⟩
theorem agg_of {cs : Array Value} {l : List Value} (h : (Value.agg cs).cells.toList = l) : cs = l.toArray := by
  have h' : cs.toList = l := h
  rw [← h']
/-- an array of two -/
theorem opens_two (hu : P.underlying t = some (.array 2 e)) (hce : P.cellsOf e = kd.sz) (hc : P.cellsOf t = kd.sz + kd.sz) (h : Opens P e kd G) : Opens P t (Kd.pair kd kd) (fun p => G p.1 ∧ G p.2) := by
  intro H enc W fuel cs x hx
  obtain ⟨xs, n, _, _, hl, hxl, hf⟩ := DataW.trod_array hu hx
  have h0 := hf 0 (by omega)
  have h1 := hf 1 (by omega)
  rw [hce] at h0 h1
  rw [List.getElem?_eq_getElem (by omega)] at h0 h1
  obtain ⟨a, ha, ga⟩ := h H enc W n _ _ h0
  obtain ⟨b, hb, gb⟩ := h H enc W n _ _ h1
  refine ⟨(a, b), ⟨_, _, ?_, ha, hb⟩, ga, gb⟩
  rw [Nat.zero_mul, List.drop_zero, Nat.one_mul, List.take_of_length_le (l := cs.drop kd.sz) (by rw [List.length_drop]; omega), List.take_append_drop]
end
end Go.Proofs.YtoilhnmdemnknaaDoor.Open

/- From the rows' condition on the laid tables of math/bits to the table in the world. -/
namespace Go.Proofs.YtoilhnmdemnknaaDoor.Laid
open Go.ChangeShapes Go.WideShapes Go.ChangeAt Go.WideMaps Go.WideElems Go.RowKit Go.Proofs.YtoilhnmdemnknaaDoor

abbrev laid2 : List (String × DataW Unit) := [("math/bits.deBruijn32tab", Rows.laid_math_bits_deBruijn32tab), ("math/bits.deBruijn64tab", Rows.laid_math_bits_deBruijn64tab)]
theorem g64 : Tryd.prog.globalNamed "math/bits.deBruijn64tab" = some 1 := by kernel_rfl
theorem t64 : (Tryd.prog.globals[1]?).map (·.type) = some 142 := by kernel_rfl
theorem door_met (os : Os) (args : Array Value) : laidMetH Tryd.prog laid2 ((World.doorLaid Tryd.prog 4000 os).forCall (fun _ _ => 0) ⟨#[], args, []⟩).memory :=
  laidMetH_of_parts3 (fuel := 100) (laidMet_of_run' 100 (by kernel_rfl) (by kernel_rfl)) (by kernel_rfl) (by kernel_rfl)
theorem tabs_of {W : World} (h : laidMetH Tryd.prog laid2 W) : Tab.Tabs W := by
  rw [MakeChecks.laidMetH_plain _ _ _ (by kernel_rfl)] at h
  obtain ⟨ps, ⟨g0, t0, cs0, f0, p0, q0, hg0, ht0, hv0, hd0, ⟨g1, t1, cs1, f1, p1, q1, hg1, ht1, hv1, hd1, _, _⟩, _⟩, _, _⟩ := h
  obtain rfl := Option.some.inj (g64.symm.trans hg1)
  obtain rfl := Option.some.inj (t64.symm.trans ht1)
  obtain ⟨xs, m1, rfl, hx1, hlen, hn3, hel⟩ := DataW.trod_array Tryd.underlying142 hd1
  have hT : (Rows.laid_math_bits_deBruijn64tab : DataW Unit) = DataW.agg (Tab.tab64.map fun n => DataW.lit (.int .u8 n)) := rfl
  rw [hT] at hx1
  simp only [Prod.mk.injEq, DataW.agg.injEq] at hx1
  have c5 : Tryd.prog.cellsOf 5 = 1 := by kernel_rfl
  intro i hi
  have hix : i < xs.length := by omega
  have hlt : i < Tab.tab64.length := by show i < 64; exact hi
  have hi1 := hel i hi
  rw [List.getElem?_eq_getElem hix] at hi1
  obtain ⟨k, e1, e2, _⟩ := DataW.trod_int Tryd.underlying5 hi1
  have hk : (Tab.tab64.map fun n => (DataW.lit (.int .u8 n) : DataW Unit))[i]? = (xs.map fun x => x.1)[i]? := by rw [hx1.1]
  rw [List.getElem?_map, List.getElem?_map, List.getElem?_eq_getElem hix, List.getElem?_eq_getElem hlt, e2] at hk
  have hk2 : Tab.tab64[i] = k := by simpa using hk
  have hc := World.var?_cell hg1 hv1 i
  rw [hc, List.getD_eq_getElem?_getD, List.getElem?_eq_getElem hlt, hk2]
  rw [c5, Nat.mul_one] at e1
  have hd : cs1.toList[i]? = some (.int .u8 k) := by
    have h0 := congrArg (fun l => l[0]?) e1
    simpa [List.getElem?_take, List.getElem?_drop] using h0
  simpa using hd
end Go.Proofs.YtoilhnmdemnknaaDoor.Laid

-- Written by wip/xprint.py of this repo, over the kit's print.py: out of the translation; the oracles in it are by hand. Not trusted: Lean checks it.
namespace Go.Proofs.YtoilhnmdemnknaaDoor.feedJoined
open Go.ChangeShapes Go.WideShapes Go.ChangeAt Go.RowKit Go.Proofs.YtoilhnmdemnknaaDoor.Open Go.Proofs.YtoilhnmdemnknaaDoor.XFeed Go.Proofs.YtoilhnmdemnknaaDoorW.PrintWords Go.Proofs.YtoilhnmdemnknaaDoorW.PrintLast Go.Proofs.YtoilhnmdemnknaaDoorW.PrintMore
open Go.ChangeMaps (open_string shut_string)
set_option linter.unusedVariables false
set_option linter.unusedSimpArgs false
theorem own : ownKnob Tryd.prog.godebug = none := by kernel_rfl
theorem laidOut : laidOutB Tryd.prog = true := by kernel_rfl
set_option maxRecDepth 100000 in
theorem lifted (os : Os) (started : os.Started) (H : Type) (enc : TypeId × Value → H) :
    ReturnsInHanded {} Tryd.checked os 6 .any (fun w args => (Rows.feedJoinedSpec.pre enc Tryd.prog Tryd.f6 [] false w args ∧ laidMetH Tryd.prog Laid.laid2 w) ∧ sizedMet enc Tryd.prog Tryd.f6 (OpenSpec.ofChange Rows.feedJoinedSpec) false w args) (Rows.feedJoinedSpec.post enc Tryd.prog Tryd.f6 false true false false) := by
  refine returnsInHanded_of_change_and (C := Tryd.checked) (X := fun w _ => laidMetH Tryd.prog Laid.laid2 w) (fun _ _ _ hh h => h.of_heap hh) own started (by kernel_rfl) Tryd.func6
    (ChangeSpec.witness_shaped (enc := enc) (C := Tryd.checked) (os := os) (X := fun w _ => laidMetH Tryd.prog Laid.laid2 w) false (World.doorLaid Tryd.prog 4000 os) #[.agg #[.int .i64 0, .slice none 0 0, .slice none 0 0], .int .i64 0, .agg #[.int .i64 0, .int .i64 0]] 8 rfl (World.shaped_of_RefB (by kernel_rfl) (by kernel_rfl)) (by kernel_rfl) (by kernel_rfl) (by kernel_rfl) (Laid.door_met os _)) ?_
  intro W base args ds gs before hval0 hW hcnd hsz0 hL _
  have hval : ∀ (j : Nat) t v, Tryd.f6.params[j]? = some t → args[j]? = some v → Value.okWide Tryd.prog W .any base t v := hval0
  have hW' := hW
  obtain ⟨p, q, hA0, hV, rfl, hfz, hnd⟩ := hW
  have hA : DataW.TrodAll enc Tryd.prog W 0 (fun _ => true) true Tryd.f6.params.toList args.toList ds p := hA0
  rw [Tryd.params6] at hA hval
  obtain ⟨v0, vs0, d0, ds0, p0, q0, hargs, rfl, rfl, h0, r0⟩ := trodAll_cons hA
  obtain ⟨v1, vs1, d1, ds1, p1, q1, rfl, rfl, rfl, h1, r1⟩ := trodAll_cons r0
  obtain ⟨v2, vs2, d2, ds2, p2, q2, rfl, rfl, rfl, h2, r2⟩ := trodAll_cons r1
  obtain ⟨rfl, rfl, rfl⟩ := trodAll_nil r2
  obtain rfl : args = #[v0, v1, v2] := by cases args; simp_all
  obtain ⟨rfl, rfl⟩ := trodVars_none hV
  obtain ⟨cs0, rfl, hz0⟩ := okWide_struct Tryd.underlying25 (hval 0 25 v0 rfl rfl)
  have k0 := h0
  have lt0 : ∀ x ∈ p0, x.block < W.heap.size := by obtain ⟨m, hm⟩ := k0; exact DataW.trod_lt m _ _ _ hm
  obtain ⟨fuel0, hf0⟩ := h0
  obtain ⟨⟨u0_0, u0_1, u0_2⟩, hK0, hG0⟩ := (opens_struct Tryd.underlying25 (by kernel_rfl) (opensF_cons rfl (by kernel_rfl) (opens_int Tryd.underlying3) (opensF_cons rfl (by kernel_rfl) (opens_slice Tryd.underlying22 (opens_iso (f := fun x : S69 => (x.f0, x.f1)) (fun p => ⟨p.1, p.2⟩) (fun _ => rfl) (opens_struct Tryd.underlying69 (by kernel_rfl) (opensF_cons rfl (by kernel_rfl) (opens_int Tryd.underlying3) (opensF_one rfl (by kernel_rfl) (opens_int Tryd.underlying3))))) (by kernel_rfl)) (opensF_one rfl (by kernel_rfl) (opens_slice Tryd.underlying23 (opens_iso (f := fun x : S71 => (x.f0, x.f1)) (fun p => ⟨p.1, p.2⟩) (fun _ => rfl) (opens_struct Tryd.underlying71 (by kernel_rfl) (opensF_cons rfl (by kernel_rfl) (opens_int Tryd.underlying3) (opensF_one rfl (by kernel_rfl) (opens_int Tryd.underlying3))))) (by kernel_rfl)))))) H enc W fuel0 _ _ hf0
  obtain ⟨c0_0, r0_0, e0_0, hk0_0, c0_1, r0_1, e0_1, hk0_1, hk0_2⟩ := hK0
  obtain ⟨g0_0, g0_1, g0_2⟩ := hG0
  have hq0_0 := hk0_0
  obtain ⟨A0_1, q0_1, hq0_1, hc0_1, hr0_1⟩ := hk0_1
  obtain ⟨A0_2, q0_2, hq0_2, hc0_2, hr0_2⟩ := hk0_2
  have hq0_0' : c0_0 = _ := hq0_0
  have hq0_1' : c0_1 = _ := hq0_1
  obtain rfl : cs0 = #[.int .i64 u0_0, .slice A0_1 u0_1.length q0_1, .slice A0_2 u0_2.length q0_2] := by
    have h_ := agg_of (l := [.int .i64 u0_0, .slice A0_1 u0_1.length q0_1, .slice A0_2 u0_2.length q0_2]) (cs := cs0) (by rw [e0_0, hq0_0', e0_1, hq0_1', hq0_2]; rfl)
    exact h_
  obtain ⟨a1, rfl, rfl, rfl, w1⟩ := open_int Tryd.underlying3 (hval 1 3 v1 rfl rfl) h1
  obtain ⟨cs2, rfl, hz2⟩ := okWide_array Tryd.underlying49 (hval 2 49 v2 rfl rfl)
  have k2 := h2
  have lt2 : ∀ x ∈ p2, x.block < W.heap.size := by obtain ⟨m, hm⟩ := k2; exact DataW.trod_lt m _ _ _ hm
  obtain ⟨fuel2, hf2⟩ := h2
  obtain ⟨⟨u2_0, u2_1⟩, hK2, hG2⟩ := (opens_two Tryd.underlying49 (by kernel_rfl) (by kernel_rfl) (opens_int Tryd.underlying3)) H enc W fuel2 _ _ hf2
  obtain ⟨c2_0, r2_0, e2_0, hk2_0, hk2_1⟩ := hK2
  obtain ⟨g2_0, g2_1⟩ := hG2
  have hq2_0 := hk2_0
  have hq2_1 := hk2_1
  have hq2_0' : c2_0 = _ := hq2_0
  obtain rfl : cs2 = #[.int .i64 u2_0, .int .i64 u2_1] := by
    have h_ := agg_of (l := [.int .i64 u2_0, .int .i64 u2_1]) (cs := cs2) (by rw [e2_0, hq2_0', hq2_1]; rfl)
    exact h_
  clear hA0 hval0 hsz0
  obtain ⟨k, h⟩ := Pure.FeedJoined u0_0 u0_1 u0_2 a1 u2_0 u2_1 g0_0 g0_1 g0_2 w1 g2_0 g2_1
  refine (dropperlaw05_FeedJoined.calls k u0_0 _ _ u0_1 _ _ u0_2 a1 u2_0 u2_1 true W hr0_1 hc0_1 hr0_2 hc0_2 (Laid.tabs_of hL) h).mono fun e W' ⟨he, bel0⟩ => ?_
  have bel : Below W.heap.size W W' := bel0
  subst he
  exact ⟨_, rfl, _, _, _, [], _, [], hW', trodAll_mk1 (shut_bool Tryd.underlying4 _), (trodAll_cons_mk (Below.trod laidOut (by kernel_rfl) (of_decide_eq_true (by kernel_rfl)) k0 bel lt0) (trodAll_cons_mk (shut_int Tryd.underlying3 w1) (trodAll_cons_mk (Below.trod laidOut (by kernel_rfl) (of_decide_eq_true (by kernel_rfl)) k2 bel lt2) trodAll_mk0))), rfl, bel.frame _, fun h => by cases h⟩
theorem over : Rows.feedJoinedRow.holds Tryd.pinned (OpenSpec.ofChange Rows.feedJoinedSpec) :=
  OpenClaim.holds_of_wide 6 Tryd.f6 rfl rfl rfl rfl rfl rfl rfl ⟨rfl, rfl, rfl, rfl, rfl⟩ rfl rfl rfl rfl rfl (by kernel_rfl) Tryd.func6 (by kernel_rfl)
    (of_decide_eq_true (by kernel_rfl)) (by unfold Func.isWrapper; first | (rw [if_pos (by decide +kernel)]; kernel_rfl) | (rw [if_neg (by decide +kernel)]; exact ⟨rfl, rfl⟩))
    (fun os started H enc _ => lifted os started H enc)
theorem card_holds : Rows.FeedJoinedCardSaid :=
  Claim7.holds_tied_plain_at .later [] [.data, .data] true (true, "93285ac14de4f79fe65648c4cc717cd0c2c76f26ec07f4016cc2c3bd3ccdb537") false
    over (fun _ h => by cases h) (by kernel_rfl) (fun _ h => by cases h) feedJoined_row_tie rfl ⟨rfl, rfl⟩ (by kernel_rfl) rfl
    (fun f fn hf hfn => by
      obtain rfl : f = 6 := Option.some.inj ((show Tryd.prog.funcNamed "dropper/dropperlaw05.FeedJoined" = some 6 by kernel_rfl).symm.trans hf) |>.symm
      obtain rfl : fn = Tryd.f6 := (Option.some.inj (Tryd.func6.symm.trans hfn)).symm
      exact ⟨by kernel_rfl, fun j t ht => by
        rw [Tryd.params6] at ht
        have hall : ∀ t ∈ (#[25, 3, 49] : Array TypeId), Tryd.prog.wantsStandIn t = false := by decide +kernel
        exact hall t (Array.mem_of_getElem? ht)⟩)
    (by kernel_rfl)
#print axioms card_holds
end Go.Proofs.YtoilhnmdemnknaaDoor.feedJoined
namespace Go.Proofs.YtoilhnmdemnknaaDoor
/-- The row, under a short name, for the claim. -/
theorem feedJoined_holds : Rows.FeedJoinedCardSaid := feedJoined.card_holds
end Go.Proofs.YtoilhnmdemnknaaDoor
