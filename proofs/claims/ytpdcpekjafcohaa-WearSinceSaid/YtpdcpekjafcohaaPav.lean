import Derived.Test.YtpdcpekjafcohaaXWearx11
import Derived.Test.YtpdcpekjafcohaaXWearx3
import Derived.Test.YtpdcpekjafcohaaXWearx4
import Derived.Test.YtpdcpekjafcohaaXWearx6
import Derived.Test.YtpdcpekjafcohaaXWearx5
import Derived.Test.YtpdcpekjafcohaaMed
namespace Go.Proofs.Ytpdcpekjafcohaa.Plain
set_option linter.unusedVariables false
set_option linter.unusedSimpArgs false
open Go.RowKit Go.Proofs.Ytpdcpekjafcohaa.XWear Go.Proofs.YtpdcpekjafcohaaW.PrintWords Go.Proofs.YtpdcpekjafcohaaW.PrintLast Go.Proofs.YtpdcpekjafcohaaW.PrintMore

/-! ### fractions in lowest terms -/
def R (n d : Int) : Int × Int := (n / (Int.gcd n d : Int), d / (Int.gcd n d : Int))
theorem gcd_pos {n d : Int} (hd : 0 < d) : 0 < (Int.gcd n d : Int) := by
  have : Int.gcd n d ≠ 0 := fun h => by have := (Int.gcd_eq_zero_iff.1 h).2; omega
  omega
theorem R_mul {n d : Int} (hd : 0 < d) : n = (Int.gcd n d : Int) * (R n d).1 ∧ d = (Int.gcd n d : Int) * (R n d).2 :=
  ⟨(Int.mul_ediv_cancel' (Int.gcd_dvd_left n d)).symm, (Int.mul_ediv_cancel' (Int.gcd_dvd_right n d)).symm⟩
theorem R_pos {n d : Int} (hd : 0 < d) : 0 < (R n d).2 := by
  have h := (R_mul (n := n) hd).2
  have g := gcd_pos (n := n) hd
  rcases Int.lt_trichotomy 0 (R n d).2 with h1 | h1 | h1
  · exact h1
  · rw [← h1] at h; omega
  · have := Int.mul_neg_of_pos_of_neg g h1
    omega
theorem R_nonneg {n d : Int} (hn : 0 ≤ n) (hd : 0 < d) : 0 ≤ (R n d).1 := Int.ediv_nonneg hn (by have := gcd_pos (n := n) hd; omega)
theorem R_le {n d : Int} (hn : 0 ≤ n) (hd : 0 < d) : (R n d).1 ≤ n ∧ (R n d).2 ≤ d := by
  have g := gcd_pos (n := n) hd
  exact ⟨Int.ediv_le_self _ hn, Int.ediv_le_self _ (by omega)⟩
/-- the order of the lowest terms is that of the fractions -/
theorem R_cmp {n d m e : Int} (hd : 0 < d) (he : 0 < e) : ((R n d).1 * (R m e).2 < (R m e).1 * (R n d).2 ↔ n * e < m * d) := by
  have g1 := gcd_pos (n := n) hd
  have g2 := gcd_pos (n := m) he
  obtain ⟨a1, a2⟩ := R_mul (n := n) hd
  obtain ⟨b1, b2⟩ := R_mul (n := m) he
  generalize (Int.gcd n d : Int) = g at *
  generalize (Int.gcd m e : Int) = k at *
  generalize (R n d).1 = p at *
  generalize (R n d).2 = q at *
  generalize (R m e).1 = p' at *
  generalize (R m e).2 = q' at *
  subst a1 a2 b1 b2
  have hgk : 0 < g * k := Int.mul_pos g1 g2
  have e1 : g * p * (k * q') = g * k * (p * q') := by grind
  have e2 : k * p' * (g * q) = g * k * (p' * q) := by grind
  rw [e1, e2]
  exact ⟨fun h => Int.mul_lt_mul_of_pos_left h hgk, fun h => Int.lt_of_mul_lt_mul_left h (by omega)⟩
theorem R_eq {n d m e : Int} (hn : 0 ≤ n) (hd : 0 < d) (hm : 0 ≤ m) (he : 0 < e) (h : n * e = m * d) : R n d = R m e := by
  have g1 := gcd_pos (n := n) hd
  have g2 := gcd_pos (n := m) he
  obtain ⟨a1, a2⟩ := R_mul (n := n) hd
  obtain ⟨b1, b2⟩ := R_mul (n := m) he
  have c1 : Int.gcd (R n d).1 (R n d).2 = 1 := Int.gcd_ediv_gcd_ediv_gcd (by omega)
  have c2 : Int.gcd (R m e).1 (R m e).2 = 1 := Int.gcd_ediv_gcd_ediv_gcd (by omega)
  have p1 := R_nonneg hn hd
  have p2 := R_nonneg hm he
  have q1 := R_pos (n := n) hd
  have q2 := R_pos (n := m) he
  have key : (R n d).1 * (R m e).2 = (R m e).1 * (R n d).2 := by
    generalize (Int.gcd n d : Int) = g at *
    generalize (Int.gcd m e : Int) = k at *
    generalize (R n d).1 = p at *
    generalize (R n d).2 = q at *
    generalize (R m e).1 = p' at *
    generalize (R m e).2 = q' at *
    subst a1 a2 b1 b2
    have hgk : g * k ≠ 0 := Int.mul_ne_zero (by omega) (by omega)
    apply Int.eq_of_mul_eq_mul_left hgk
    grind
  clear a1 a2 b1 b2
  have : (R n d).1 = (R m e).1 ∧ (R n d).2 = (R m e).2 := by
    generalize (R n d).1 = p at *
    generalize (R n d).2 = q at *
    generalize (R m e).1 = p' at *
    generalize (R m e).2 = q' at *
    obtain ⟨p, rfl⟩ := Int.eq_ofNat_of_zero_le p1
    obtain ⟨p', rfl⟩ := Int.eq_ofNat_of_zero_le p2
    obtain ⟨q, rfl⟩ := Int.eq_ofNat_of_zero_le (Int.le_of_lt q1)
    obtain ⟨q', rfl⟩ := Int.eq_ofNat_of_zero_le (Int.le_of_lt q2)
    have k1 : p * q' = p' * q := by exact_mod_cast key
    have c1' : Nat.Coprime p q := c1
    have c2' : Nat.Coprime p' q' := c2
    have d1 : q ∣ q' := (c1'.symm).dvd_of_dvd_mul_left (show q ∣ p * q' from ⟨p', by rw [k1, Nat.mul_comm]⟩)
    have d2 : q' ∣ q := (c2'.symm).dvd_of_dvd_mul_left (show q' ∣ p' * q from ⟨p, by rw [← k1, Nat.mul_comm]⟩)
    have hq : q = q' := Nat.dvd_antisymm d1 d2
    subst hq
    have : p = p' := Nat.eq_of_mul_eq_mul_right (by omega) k1
    exact ⟨by rw [this], rfl⟩
  exact Prod.ext this.1 this.2

/-! ### the program's fractions -/
theorem gcd_ev : ∀ (b a : Nat), a ≤ 4000000000000000000 → b ≤ 4000000000000000000 → Ev (fun k => wear_gcd.l0 k (a : Int) (b : Int)) (Int.gcd a b : Int) := by
  intro b
  induction b using Nat.strongRecOn with
  | _ b ih =>
    intro a ha hb
    refine Ev.step (fun k => by rw [wear_gcd.l0]) ?_
    by_cases h : b = 0
    · subst h
      refine ev_pos rfl (ev_const ?_)
      have e : wrap64 (-(a : Int)) = -(a : Int) := wrap_id (by omega) (by omega)
      rw [e]
      have : mx (a : Int) (-(a : Int)) = (a : Int) := by unfold mx; split <;> omega
      rw [this]; simp
    · refine ev_neg (by omega) ?_
      have hlt : a % b < b := Nat.mod_lt _ (by omega)
      have e : Int.tmod (a : Int) (b : Int) = ((a % b : Nat) : Int) := by
        rw [Int.tmod_eq_emod_of_nonneg (by omega)]; rfl
      rw [e]
      have := ih (a % b) hlt b hb (by omega)
      have e2 : Int.gcd (b : Int) ((a % b : Nat) : Int) = Int.gcd (a : Int) (b : Int) := by
        show Nat.gcd b (a % b) = Nat.gcd a b
        rw [Nat.gcd_comm b, ← Nat.gcd_rec, Nat.gcd_comm]
      rw [e2] at this
      exact this
theorem R_fits {n d : Int} (hn : 0 ≤ n) (hd : 0 < d) (hn2 : n ≤ 4000000000000000000) (hd2 : d ≤ 4000000000000000000) :
    wrap64 (Int.tdiv n (Int.gcd n d : Int)) = (R n d).1 ∧ wrap64 (Int.tdiv d (Int.gcd n d : Int)) = (R n d).2 := by
  have h1 := R_le hn hd
  have h2 := R_nonneg hn hd
  have h3 := R_pos (n := n) hd
  have e1 : Int.tdiv n (Int.gcd n d : Int) = (R n d).1 := Int.tdiv_eq_ediv_of_nonneg hn
  have e2 : Int.tdiv d (Int.gcd n d : Int) = (R n d).2 := Int.tdiv_eq_ediv_of_nonneg (by omega)
  rw [e1, e2]
  exact ⟨wrap_id (by omega) (by omega), wrap_id (by omega) (by omega)⟩
theorem ratio_ev {n d : Int} (hn : 0 ≤ n) (hd : 0 < d) (hn2 : n ≤ 4000000000000000000) (hd2 : d ≤ 4000000000000000000) : Ev (fun k => wear_ratio.f k n d) (R n d) := by
  obtain ⟨e1, e2⟩ := R_fits hn hd hn2 hd2
  have g := gcd_pos (n := n) hd
  have hg : Ev (fun k => wear_gcd.f k n d) (Int.gcd n d : Int) := by
    obtain ⟨n', rfl⟩ := Int.eq_ofNat_of_zero_le hn
    obtain ⟨d', rfl⟩ := Int.eq_ofNat_of_zero_le (Int.le_of_lt hd)
    exact gcd_ev d' n' (by omega) (by omega)
  unfold wear_ratio.f
  refine Ev.bind hg (ev_neg (by omega) (ev_const ?_))
  rw [e1, e2]
/-! ### sums -/
def pre (r : List Int) : Nat → Int
  | 0 => 0
  | i + 1 => pre r i + rd r (i : Int)
theorem rd_bound {r : List Int} (hv : ∀ x ∈ r, 0 ≤ x ∧ x ≤ 10000) (i : Nat) : 0 ≤ rd r (i : Int) ∧ rd r (i : Int) ≤ 10000 := by
  by_cases h : i < r.length
  · rw [rd_eq r i h]; exact hv _ (List.getElem_mem h)
  · have : rd r (i : Int) = 0 := by simp [rd, List.getD_eq_getElem?_getD, List.getElem?_eq_none (show r.length ≤ i by omega)]
    omega
theorem pre_bound {r : List Int} (hv : ∀ x ∈ r, 0 ≤ x ∧ x ≤ 10000) (a : Nat) : ∀ d : Nat, 0 ≤ pre r (a + d) - pre r a ∧ pre r (a + d) - pre r a ≤ 10000 * d := by
  intro d
  induction d with
  | zero => simp
  | succ d ih =>
    have := rd_bound hv (a + d)
    show 0 ≤ pre r (a + d) + rd r ((a + d : Nat) : Int) - pre r a ∧ _
    have e : pre r (a + (d + 1)) = pre r (a + d) + rd r ((a + d : Nat) : Int) := rfl
    rw [e]
    omega
def sm (r : List Int) (a c : Nat) : Int := pre r (a + c) - pre r a
theorem sm_bound {r : List Int} (hv : ∀ x ∈ r, 0 ≤ x ∧ x ≤ 10000) (a c : Nat) : 0 ≤ sm r a c ∧ sm r a c ≤ 10000 * c := pre_bound hv a c
theorem sm_one (r : List Int) (a : Nat) : sm r a 1 = rd r (a : Int) := by
  have : pre r (a + 1) = pre r a + rd r (a : Int) := rfl
  unfold sm; omega
theorem sm_add (r : List Int) (a c d : Nat) : sm r a (c + d) = sm r a c + sm r (a + c) d := by
  unfold sm; rw [← Nat.add_assoc]; omega

/-! ### blocks: a row of them, one behind the other -/
structure Blk where
  f : Nat
  c : Nat
/-- the mean of each beginning is not less than that of the block -/
def Okb (r : List Int) (b : Blk) : Prop := 1 ≤ b.c ∧ ∀ x, x ≤ b.c → sm r b.f b.c * x ≤ sm r b.f x * b.c
def Lt (r : List Int) (a b : Blk) : Prop := sm r a.f a.c * b.c < sm r b.f b.c * a.c
def Chain (r : List Int) : Nat → List Blk → Nat → Prop
  | f, [], n => f = n
  | f, b :: l, n => b.f = f ∧ Okb r b ∧ Chain r (f + b.c) l n
theorem chain_append (r : List Int) (l1 l2 : List Blk) : ∀ f n, Chain r f (l1 ++ l2) n ↔ ∃ m, Chain r f l1 m ∧ Chain r m l2 n := by
  induction l1 with
  | nil => intro f n; simp [Chain]
  | cons b l1 ih =>
    intro f n
    simp only [List.cons_append, Chain, ih]
    constructor
    · rintro ⟨a, b, m, c, d⟩; exact ⟨m, ⟨a, b, c⟩, d⟩
    · rintro ⟨m, ⟨a, b, c⟩, d⟩; exact ⟨a, b, m, c, d⟩
theorem chain_le (r : List Int) (l : List Blk) : ∀ f n, Chain r f l n → f + l.length ≤ n := by
  induction l with
  | nil => intro f n h; have : f = n := h; simp; omega
  | cons b l ih =>
    intro f n h
    have h1 := ih _ _ h.2.2
    have h2 := h.2.1.1
    simp; omega
theorem okb_one (r : List Int) (f : Nat) : Okb r ⟨f, 1⟩ := by
  refine ⟨Nat.le_refl _, fun x hx => ?_⟩
  have hx' : x ≤ 1 := hx
  rcases (show x = 0 ∨ x = 1 by omega) with rfl | rfl
  · show sm r f 1 * ((0 : Nat) : Int) ≤ sm r f 0 * ((1 : Nat) : Int)
    have : sm r f 0 = 0 := by simp [sm]
    rw [this]; simp
  · exact Int.le_refl _
/-- two blocks become one, if the first one's mean is not less -/
theorem okb_merge (r : List Int) (f c d : Nat) (h1 : Okb r ⟨f, c⟩) (h2 : Okb r ⟨f + c, d⟩) (h : sm r (f + c) d * c ≤ sm r f c * d) : Okb r ⟨f, c + d⟩ := by
  obtain ⟨a1, a2⟩ := h1
  obtain ⟨b1, b2⟩ := h2
  simp only at a1 a2 b1 b2
  refine ⟨by simp only; omega, fun x hx => ?_⟩
  simp only at hx ⊢
  rw [sm_add]
  generalize hs : sm r f c = s at *
  generalize ht : sm r (f + c) d = t at *
  have hcd : ((c + d : Nat) : Int) = (c : Int) + (d : Int) := by omega
  rw [hcd]
  have hc0 : (0 : Int) < (c : Int) := by omega
  have hd0 : (0 : Int) < (d : Int) := by omega
  by_cases hxc : x ≤ c
  · have h3 := a2 x hxc
    have hx0 : (0 : Int) ≤ (x : Int) := by omega
    generalize sm r f x = P at *
    generalize (c : Int) = C at *
    generalize (d : Int) = D at *
    generalize (x : Int) = X at *
    -- (s + t) X ≤ P (C + D): times C
    apply Int.le_of_mul_le_mul_left (a := C) _ hc0
    have k1 : s * X * (C + D) ≤ P * C * (C + D) := Int.mul_le_mul_of_nonneg_right h3 (by omega)
    have k2 : t * C * X ≤ s * D * X := Int.mul_le_mul_of_nonneg_right h hx0
    grind
  · obtain ⟨y, rfl⟩ : ∃ y, x = c + y := ⟨x - c, by omega⟩
    have h3 := b2 y (by omega)
    have hy : y ≤ d := by omega
    rw [sm_add, hs]
    have hcy : ((c + y : Nat) : Int) = (c : Int) + (y : Int) := by omega
    rw [hcy]
    have hy0 : (0 : Int) ≤ (d : Int) - (y : Int) := by omega
    generalize sm r (f + c) y = Q at *
    generalize (c : Int) = C at *
    generalize (d : Int) = D at *
    generalize (y : Int) = Y at *
    apply Int.le_of_mul_le_mul_left (a := D) _ hd0
    have k1 : t * Y * (C + D) ≤ Q * D * (C + D) := Int.mul_le_mul_of_nonneg_right h3 (by omega)
    have k2 : t * C * (D - Y) ≤ s * D * (D - Y) := Int.mul_le_mul_of_nonneg_right h hy0
    grind

/-! ### a line under the sums -/
def phi (r : List Int) (s q : Int) (x : Nat) : Int := q * pre r x - s * x
theorem phi_right (r : List Int) (s q : Int) (hq : 0 < q) (l : List Blk) : ∀ f n, Chain r f l n → (∀ b ∈ l, s * b.c ≤ sm r b.f b.c * q) → ∀ x, f ≤ x → x ≤ n → phi r s q f ≤ phi r s q x := by
  induction l with
  | nil =>
    intro f n h _ x h1 h2
    have : f = n := h
    obtain rfl : x = f := by omega
    exact Int.le_refl _
  | cons b l ih =>
    intro f n h hb x h1 h2
    obtain ⟨rfl, hok, hc⟩ := h
    have hs := hb b (by simp)
    have hin : ∀ y, y ≤ b.c → phi r s q b.f ≤ phi r s q (b.f + y) := by
      intro y hy
      have h3 := hok.2 y hy
      have hc0 : (0 : Int) < (b.c : Int) := by have := hok.1; omega
      have hy0 : (0 : Int) ≤ (y : Int) := by omega
      have e : phi r s q (b.f + y) = phi r s q b.f + (q * sm r b.f y - s * y) := by
        unfold phi sm
        have : ((b.f + y : Nat) : Int) = (b.f : Int) + (y : Int) := by omega
        rw [this]; grind
      rw [e]
      have : 0 ≤ q * sm r b.f y - s * y := by
        generalize sm r b.f y = P at *
        generalize sm r b.f b.c = S at *
        generalize (b.c : Int) = C at *
        generalize (y : Int) = Y at *
        apply Int.le_of_mul_le_mul_left (a := C) _ hc0
        have k1 : S * Y * q ≤ P * C * q := Int.mul_le_mul_of_nonneg_right h3 (by omega)
        have k2 : s * C * Y ≤ S * q * Y := Int.mul_le_mul_of_nonneg_right hs hy0
        grind
      omega
    by_cases hx : x ≤ b.f + b.c
    · obtain ⟨y, rfl⟩ : ∃ y, x = b.f + y := ⟨x - b.f, by omega⟩
      exact hin y (by omega)
    · have h4 := ih _ _ hc (fun b' hb' => hb b' (List.mem_cons_of_mem _ hb')) x (by omega) h2
      have h5 := hin b.c (Nat.le_refl _)
      omega
theorem phi_left (r : List Int) (s q : Int) (hq : 0 < q) (l : List Blk) : ∀ f n, Chain r f l n → (∀ b ∈ l, sm r b.f b.c * q ≤ s * b.c) → ∀ x, f ≤ x → x ≤ n → phi r s q n ≤ phi r s q x := by
  induction l with
  | nil =>
    intro f n h _ x h1 h2
    have : f = n := h
    obtain rfl : x = n := by omega
    exact Int.le_refl _
  | cons b l ih =>
    intro f n h hb x h1 h2
    obtain ⟨rfl, hok, hc⟩ := h
    have hs := hb b (by simp)
    have hrest := ih _ _ hc (fun b' hb' => hb b' (List.mem_cons_of_mem _ hb'))
    have hle := chain_le r l _ _ hc
    by_cases hx : b.f + b.c ≤ x
    · exact hrest x hx h2
    · have h4 := hrest (b.f + b.c) (Nat.le_refl _) (by omega)
      obtain ⟨y, rfl⟩ : ∃ y, x = b.f + y := ⟨x - b.f, by omega⟩
      have hy : y ≤ b.c := by omega
      have h3 := hok.2 y hy
      have hc0 : (0 : Int) < (b.c : Int) := by have := hok.1; omega
      have hy0 : (0 : Int) ≤ (b.c : Int) - (y : Int) := by omega
      have e : phi r s q (b.f + y) = phi r s q (b.f + b.c) + (q * sm r b.f y - s * y) - (q * sm r b.f b.c - s * b.c) := by
        unfold phi sm
        have e1 : ((b.f + y : Nat) : Int) = (b.f : Int) + (y : Int) := by omega
        have e2 : ((b.f + b.c : Nat) : Int) = (b.f : Int) + (b.c : Int) := by omega
        rw [e1, e2]; grind
      rw [e]
      have : 0 ≤ (q * sm r b.f y - s * y) - (q * sm r b.f b.c - s * b.c) := by
        generalize sm r b.f y = P at *
        generalize sm r b.f b.c = S at *
        generalize (b.c : Int) = C at *
        generalize (y : Int) = Y at *
        apply Int.le_of_mul_le_mul_left (a := C) _ hc0
        have k1 : S * Y * q ≤ P * C * q := Int.mul_le_mul_of_nonneg_right h3 (by omega)
        have k2 : S * q * (C - Y) ≤ s * C * (C - Y) := Int.mul_le_mul_of_nonneg_right hs hy0
        grind
      omega
/-- THE SUPPORT: under all sums lies the line of each block, if the means grow from block to block. -/
theorem support (r : List Int) (l : List Blk) (n : Nat) (h : Chain r 0 l n) (hp : l.Pairwise (Lt r)) (b : Blk) (hb : b ∈ l) :
    ∀ x, x ≤ n → phi r (sm r b.f b.c) b.c b.f ≤ phi r (sm r b.f b.c) b.c x := by
  obtain ⟨l1, l2, rfl⟩ := List.append_of_mem hb
  obtain ⟨m, h1, h2⟩ := (chain_append r l1 (b :: l2) 0 n).1 h
  obtain ⟨rfl, hok, h3⟩ := h2
  have hc0 : (0 : Int) < (b.c : Int) := by have := hok.1; omega
  obtain ⟨p1, p2, p3⟩ := List.pairwise_append.1 hp
  rw [List.pairwise_cons] at p2
  intro x hx
  by_cases hxf : x ≤ b.f
  · refine phi_left r _ _ hc0 l1 0 b.f h1 (fun a ha => ?_) x (Nat.zero_le _) hxf
    exact Int.le_of_lt (p3 a ha b (by simp))
  · refine phi_right r _ _ hc0 (b :: l2) b.f n ⟨rfl, hok, h3⟩ (fun a ha => ?_) x (by omega) hx
    rcases List.mem_cons.1 ha with rfl | ha
    · exact Int.le_refl _
    · exact Int.le_of_lt (p2.1 a ha)

/-! ### the program's blocks -/
def toS (r : List Int) (b : Blk) : S74 := ⟨(b.f : Int), sm r b.f b.c, (b.c : Int)⟩
def mn_ (r : List Int) (b : Blk) : Int × Int := R (sm r b.f b.c) b.c
theorem wrap_mul {a b A B : Int} (ha : 0 ≤ a) (hb : 0 ≤ b) (hA : a ≤ A) (hB : b ≤ B) (h : A * B ≤ 9223372036854775807) : wrap64 (a * b) = a * b := by
  have h1 : 0 ≤ a * b := Int.mul_nonneg ha hb
  have h2 : a * b ≤ A * B := Int.mul_le_mul hA hB hb (by omega)
  exact wrap_id (by omega) (by omega)
theorem less_f {n d m e : Int} (hn : 0 ≤ n) (hd : 0 < d) (hm : 0 ≤ m) (he : 0 < e) (bn : n ≤ 1000000) (bd : d ≤ 1000) (bm : m ≤ 1000000) (be : e ≤ 1000) :
    decide (wrap64 ((R n d).1 * (R m e).2) < wrap64 ((R m e).1 * (R n d).2)) = decide (n * e < m * d) := by
  have a1 := R_le hn hd
  have a2 := R_le hm he
  have a3 := R_nonneg hn hd
  have a4 := R_nonneg hm he
  have a5 := R_pos (n := n) hd
  have a6 := R_pos (n := m) he
  rw [wrap_mul a3 (Int.le_of_lt a6) (A := 1000000) (B := 1000) (by omega) (by omega) (by decide), wrap_mul a4 (Int.le_of_lt a5) (A := 1000000) (B := 1000) (by omega) (by omega) (by decide)]
  exact decide_eq_decide.2 (R_cmp hd he)
theorem block_mean_ev {f s c : Int} (hs : 0 ≤ s) (hc : 0 < c) (hs2 : s ≤ 1000000) (hc2 : c ≤ 1000) : Ev (fun k => wear_block_mean.f k f s c) (R s c) := by
  unfold wear_block_mean.f
  exact Ev.bind (ratio_ev hs hc (by omega) (by omega)) (Ev.now _)
theorem rd_S74 (xs : List S74) (i : Nat) (h : i < xs.length) : rd_T74 xs (i : Int) = xs[i] := by simp [rd_T74, List.getD_eq_getElem?_getD, h]
theorem rd_S35 (xs : List S35) (i : Nat) (h : i < xs.length) : rd_T35 xs (i : Int) = xs[i] := by simp [rd_T35, List.getD_eq_getElem?_getD, h]

theorem blocks_l1 (r : List Int) (h2 : r.length ≤ 40) (hv : ∀ x ∈ r, 0 ≤ x ∧ x ≤ 10000) (i : Nat) (hi : i < r.length) :
    ∀ (m : Nat) (L : List Blk) (b : Blk), L.length = m → Chain r 0 L b.f → L.Pairwise (Lt r) → Okb r b → b.f + b.c = i + 1 →
    ∃ L', Chain r 0 L' (i + 1) ∧ L'.Pairwise (Lt r) ∧ ∀ res, Ev (fun k => wear_blocks.l0 k (L'.map (toS r)) r (r.length : Int) ((i + 1 : Nat) : Int)) res →
      Ev (fun k => wear_blocks.l1 k (L.map (toS r)) ((m : Int) - 1) r (r.length : Int) (i : Int) (b.f : Int) (sm r b.f b.c) (b.c : Int)) res := by
  intro m
  have hw : wrap64 ((i : Int) + 1) = ((i + 1 : Nat) : Int) := wrap_succ _ (by omega)
  induction m with
  | zero =>
    intro L b hL hch hp hok hbi
    obtain rfl := List.length_eq_zero_iff.1 hL
    refine ⟨[b], ?_, by simp, ?_⟩
    · have : (0 : Nat) = b.f := hch
      exact ⟨this.symm, hok, show 0 + b.c = i + 1 by omega⟩
    · intro res h
      refine Ev.step (fun k => by rw [wear_blocks.l1]) ?_
      refine ev_neg (by omega) (ev_pos (by simp) ?_)
      rw [hw]
      exact h
  | succ m ih =>
    intro L b hL hch hp hok hbi
    rcases List.eq_nil_or_concat L with rfl | ⟨L0, t, he⟩
    · simp at hL
    rw [List.concat_eq_append] at he
    subst he
    have hL0 : L0.length = m := by simpa using hL
    obtain ⟨q, hc1, hc2⟩ := (chain_append r L0 [t] 0 b.f).1 hch
    obtain ⟨rfl, htok, hte⟩ := hc2
    have hte' : t.f + t.c = b.f := hte
    obtain ⟨p1, _, p3⟩ := List.pairwise_append.1 hp
    have bt := sm_bound hv t.f t.c
    have bb := sm_bound hv b.f b.c
    have c1 := htok.1
    have c2 := hok.1
    have hget : rd_T74 ((L0 ++ [t]).map (toS r)) (((m + 1 : Nat) : Int) - 1) = toS r t := by
      have e : (((m + 1 : Nat) : Int) - 1) = (m : Int) := by omega
      rw [e, rd_S74 _ m (by simp; omega)]
      simp [← hL0]
    have hx : ((m + 1 : Nat) : Int) - 1 = (m : Int) := by omega
    have hm40 : m + 1 ≤ 40 := by have := chain_le r _ _ _ hch; rw [List.length_append, hL0] at this; simp at this; omega
    have hlen : ((L0 ++ [t]).map (toS r)).length = m + 1 := by simp [hL0]
    have hstep : ∀ res, Ev (fun k => if decide (sm r t.f t.c * b.c < sm r b.f b.c * t.c) = true then
        (if ((L0 ++ [t]).map (toS r)).length < 5864062014805 then (wear_blocks.l0 k ((L0 ++ [t]).map (toS r) ++ [(⟨(b.f : Int), sm r b.f b.c, (b.c : Int)⟩ : S74)]) r (r.length : Int) (wrap64 ((i : Int) + 1))) else none)
        else (if (m : Int) ≤ (((L0 ++ [t]).map (toS r)).length : Int) then (wear_blocks.l1 k (((L0 ++ [t]).map (toS r)).take ((m : Int)).toNat) (wrap64 ((m : Int) - 1)) r (r.length : Int) (i : Int) (t.f : Int) (wrap64 (sm r t.f t.c + sm r b.f b.c)) (wrap64 ((t.c : Int) + (b.c : Int)))) else none)) res →
        Ev (fun k => wear_blocks.l1 k ((L0 ++ [t]).map (toS r)) (((m + 1 : Nat) : Int) - 1) r (r.length : Int) (i : Int) (b.f : Int) (sm r b.f b.c) (b.c : Int)) res := by
      intro res h
      refine Ev.step (fun k => by rw [wear_blocks.l1]) ?_
      rw [hget, hx]
      refine ev_pos (by omega) (ev_pos (by omega) (ev_pos (by rw [hlen]; omega) ?_))
      refine Ev.bind (block_mean_ev (f := (toS r t).f0) (s := sm r t.f t.c) (c := t.c) (by omega) (by omega) (by omega) (by omega)) ?_
      refine Ev.bind (block_mean_ev (f := (b.f : Int)) (s := sm r b.f b.c) (c := b.c) (by omega) (by omega) (by omega) (by omega)) ?_
      unfold wear_less.f
      rw [less_f (by omega) (by omega) (by omega) (by omega) (by omega) (by omega) (by omega) (by omega)]
      exact ev_some h
    by_cases hlt : sm r t.f t.c * b.c < sm r b.f b.c * t.c
    · refine ⟨(L0 ++ [t]) ++ [b], ?_, ?_, ?_⟩
      · exact (chain_append r (L0 ++ [t]) [b] 0 (i + 1)).2 ⟨b.f, hch, rfl, hok, hbi⟩
      · rw [List.pairwise_append]
        refine ⟨hp, by simp, ?_⟩
        intro a ha b' hb'
        obtain rfl : b' = b := by simpa using hb'
        rcases List.mem_append.1 ha with ha | ha
        · have h1 := p3 a ha t (by simp)
          -- a < t < b
          unfold Lt at h1 ⊢
          have ca : 1 ≤ a.c := by
            obtain ⟨l1, l2, e⟩ := List.append_of_mem ha
            rw [e] at hc1
            obtain ⟨_, _, h5⟩ := (chain_append r l1 (a :: l2) 0 t.f).1 hc1
            exact h5.2.1.1
          have t0 : (0 : Int) < (t.c : Int) := by omega
          have a0 : (0 : Int) < (a.c : Int) := by omega
          have b0 : (0 : Int) < (b'.c : Int) := by omega
          generalize sm r a.f a.c = A at *
          generalize sm r t.f t.c = T at *
          generalize sm r b'.f b'.c = B at *
          generalize (a.c : Int) = x at *
          generalize (t.c : Int) = y at *
          generalize (b'.c : Int) = z at *
          apply Int.lt_of_mul_lt_mul_left (a := y) _ (by omega)
          have k1 : A * y * z < T * x * z := Int.mul_lt_mul_of_pos_right h1 b0
          have k2 : T * z * x < B * y * x := Int.mul_lt_mul_of_pos_right hlt a0
          grind
        · obtain rfl : a = t := by simpa using ha
          exact hlt
      · intro res h
        refine hstep res (ev_pos (by simpa using hlt) (ev_pos (by rw [hlen]; omega) ?_))
        rw [hw]
        rw [List.map_append] at h
        exact h
    · have hmerge : Okb r ⟨t.f, t.c + b.c⟩ := by
        refine okb_merge r t.f t.c b.c htok ?_ ?_
        · rw [hte']; exact hok
        · rw [hte']; omega
      obtain ⟨L', k1, k2, k3⟩ := ih L0 ⟨t.f, t.c + b.c⟩ hL0 hc1 p1 hmerge (by simp only; omega)
      refine ⟨L', k1, k2, fun res h => ?_⟩
      refine hstep res (ev_neg (by simpa using hlt) (ev_pos (by rw [hlen]; omega) ?_))
      have e1 : ((L0 ++ [t]).map (toS r)).take ((m : Int)).toNat = L0.map (toS r) := by
        rw [Int.toNat_natCast, List.map_append, List.take_append_of_le_length (by simp; omega), List.take_of_length_le (by simp; omega)]
      have e2 : wrap64 ((m : Int) - 1) = (m : Int) - 1 := wrap_id (by omega) (by have := chain_le r _ _ _ hch; rw [List.length_append] at this; simp at this; omega)
      have e3 : wrap64 (sm r t.f t.c + sm r b.f b.c) = sm r t.f (t.c + b.c) := by
        rw [sm_add, hte']; exact wrap_id (by omega) (by omega)
      have e4 : wrap64 ((t.c : Int) + (b.c : Int)) = ((t.c + b.c : Nat) : Int) := wrap_plus _ _ (by omega) (by omega)
      rw [e1, e2, e3, e4]
      exact k3 res h
theorem blocks_l0 (r : List Int) (h2 : r.length ≤ 40) (hv : ∀ x ∈ r, 0 ≤ x ∧ x ≤ 10000) : ∀ (d i : Nat) (L : List Blk), i + d = r.length → Chain r 0 L i → L.Pairwise (Lt r) →
    ∃ L', Chain r 0 L' r.length ∧ L'.Pairwise (Lt r) ∧ Ev (fun k => wear_blocks.l0 k (L.map (toS r)) r (r.length : Int) (i : Int)) (L'.map (toS r)) := by
  intro d
  induction d with
  | zero =>
    intro i L hi hc hp
    obtain rfl : i = r.length := by omega
    refine ⟨L, hc, hp, ?_⟩
    refine Ev.step (fun k => by rw [wear_blocks.l0]) ?_
    exact ev_neg (by omega) (Ev.now _)
  | succ d ih =>
    intro i L hi hc hp
    have hlen := chain_le r L 0 i hc
    obtain ⟨L1, c1, p1, k1⟩ := blocks_l1 r h2 hv i (by omega) L.length L ⟨i, 1⟩ rfl hc hp (okb_one r i) rfl
    obtain ⟨L2, c2, p2, k2⟩ := ih (i + 1) L1 (by omega) c1 p1
    refine ⟨L2, c2, p2, ?_⟩
    refine Ev.step (fun k => by rw [wear_blocks.l0]) ?_
    refine ev_pos (by omega) (ev_pos (by omega) (ev_pos (by omega) ?_))
    have e1 : wrap64 (((L.map (toS r)).length : Int) - 1) = (L.length : Int) - 1 := by
      rw [List.length_map]; exact wrap_id (by omega) (by omega)
    rw [e1]
    have := k1 _ k2
    rw [sm_one] at this
    exact this
theorem blocks_ev (r : List Int) (h2 : r.length ≤ 40) (hv : ∀ x ∈ r, 0 ≤ x ∧ x ≤ 10000) :
    ∃ L, Chain r 0 L r.length ∧ L.Pairwise (Lt r) ∧ Ev (fun k => wear_blocks.f k r) (L.map (toS r)) :=
  blocks_l0 r h2 hv r.length 0 [] (by omega) rfl List.Pairwise.nil

/-! ### the program's nearest row -/
def toR (v : Int × Int) : S35 := ⟨v.1, v.2⟩
def nearL (r : List Int) (L : List Blk) : List S35 := L.flatMap fun b => List.replicate b.c (toR (mn_ r b))
theorem nearL_snoc (r : List Int) (L : List Blk) (b : Blk) : nearL r (L ++ [b]) = nearL r L ++ List.replicate b.c (toR (mn_ r b)) := by simp [nearL]
theorem nearL_len (r : List Int) (L : List Blk) : ∀ f n, Chain r f L n → (nearL r L).length = n - f := by
  induction L with
  | nil => intro f n h; have : f = n := h; simp [nearL]; omega
  | cons b L ih =>
    intro f n h
    have h1 := ih _ _ h.2.2
    have h2 := chain_le r _ _ _ h.2.2
    have e : nearL r (b :: L) = List.replicate b.c (toR (mn_ r b)) ++ nearL r L := rfl
    rw [e, List.length_append, List.length_replicate, h1]
    omega
theorem nearL_get (r : List Int) (L : List Blk) : ∀ f n, Chain r f L n → ∀ i, f ≤ i → i < n → ∃ b, b ∈ L ∧ b.f ≤ i ∧ i < b.f + b.c ∧ (nearL r L)[i - f]? = some (toR (mn_ r b)) := by
  induction L with
  | nil => intro f n h i h1 h2; have : f = n := h; omega
  | cons b L ih =>
    intro f n h i h1 h2
    obtain ⟨rfl, hok, hc⟩ := h
    have e : nearL r (b :: L) = List.replicate b.c (toR (mn_ r b)) ++ nearL r L := rfl
    by_cases hib : i < b.f + b.c
    · refine ⟨b, by simp, h1, hib, ?_⟩
      rw [e, List.getElem?_append_left (by simp; omega), List.getElem?_replicate]
      rw [if_pos (by omega)]
    · obtain ⟨b', hb', q1, q2, q3⟩ := ih _ _ hc i (by omega) h2
      refine ⟨b', List.mem_cons_of_mem _ hb', q1, q2, ?_⟩
      rw [e, List.getElem?_append_right (by simp; omega), List.length_replicate]
      have : i - b.f - b.c = i - (b.f + b.c) := by omega
      rw [this]; exact q3
theorem chain_mem (r : List Int) (L : List Blk) : ∀ f n, Chain r f L n → ∀ b ∈ L, Okb r b ∧ b.f + b.c ≤ n := by
  induction L with
  | nil => intro f n h b hb; simp at hb
  | cons a L ih =>
    intro f n h b hb
    obtain ⟨rfl, hok, hc⟩ := h
    have := chain_le r _ _ _ hc
    rcases List.mem_cons.1 hb with rfl | hb
    · exact ⟨hok, by omega⟩
    · exact ih _ _ hc b hb
theorem nearest_l0 (r : List Int) (h2 : r.length ≤ 40) (hv : ∀ x ∈ r, 0 ≤ x ∧ x ≤ 10000) (L : List Blk) (hc : Chain r 0 L r.length) : ∀ (d i : Nat), i + d = L.length →
    Ev (fun k => wear_nearest.l0 k (nearL r (L.take i)) (L.map (toS r)) (L.length : Int) (i : Int)) (nearL r L) := by
  intro d
  have hL := chain_le r L 0 _ hc
  induction d with
  | zero =>
    intro i hi
    obtain rfl : i = L.length := by omega
    refine Ev.step (fun k => by rw [wear_nearest.l0]) ?_
    rw [List.take_length]
    exact ev_neg (by omega) (Ev.now _)
  | succ d ih =>
    intro i hi
    have hlt : i < L.length := by omega
    refine Ev.step (fun k => by rw [wear_nearest.l0]) ?_
    have hg : rd_T74 (L.map (toS r)) (i : Int) = toS r L[i] := by
      rw [rd_S74 _ i (by simpa using hlt)]; simp
    rw [hg]
    have hb := chain_mem r L 0 _ hc L[i] (List.getElem_mem hlt)
    have hb1 := hb.1.1
    have hs := sm_bound hv L[i].f L[i].c
    refine ev_pos (by omega) (ev_pos (by omega) (ev_pos (by simp; omega) ?_))
    refine Ev.bind (block_mean_ev (f := (toS r L[i]).f0) (s := sm r L[i].f L[i].c) (c := L[i].c) (by omega) (by omega) (by omega) (by omega)) ?_
    have hrep : slices_Repeat_api_Ratio_api_Ratio.f [(⟨(R (sm r L[i].f L[i].c) L[i].c).1, (R (sm r L[i].f L[i].c) L[i].c).2⟩ : S35)] (toS r L[i]).f2 = some (List.replicate L[i].c (toR (mn_ r L[i]))) := by
      unfold slices_Repeat_api_Ratio_api_Ratio.f
      show (if 1 ≤ (L[i].c : Int) ∧ (L[i].c : Int) ≤ 1000 then _ else _) = _
      rw [if_pos (by omega)]
      rfl
    rw [hrep]
    have hlen : (nearL r (L.take i)).length ≤ 40 := by
      have hsplit : L = L.take i ++ L.drop i := (List.take_append_drop i L).symm
      have hc' := hc
      rw [hsplit] at hc'
      obtain ⟨m, m1, m2⟩ := (chain_append r _ _ 0 _).1 hc'
      have := chain_le r _ _ _ m2
      rw [nearL_len r _ _ _ m1]; omega
    refine ev_some (ev_pos (by simp only [List.length_replicate]; omega) ?_)
    rw [wrap_succ _ (by omega), ← nearL_snoc, ← List.take_succ_eq_append_getElem hlt]
    exact ih (i + 1) (by omega)
theorem nearest_of (r : List Int) (h2 : r.length ≤ 40) (hv : ∀ x ∈ r, 0 ≤ x ∧ x ≤ 10000) (L : List Blk) (hc : Chain r 0 L r.length) (hb : Ev (fun k => wear_blocks.f k r) (L.map (toS r))) :
    Ev (fun k => wear_nearest.f k r) (nearL r L) := by
  unfold wear_nearest.f
  refine Ev.bind hb ?_
  have := nearest_l0 r h2 hv L hc L.length 0 (by omega)
  rw [List.length_map]
  exact this

/-! ### the document's order -/
theorem refLess_f {n d m e : Int} (hn : 0 ≤ n) (hd : 0 < d) (hm : 0 ≤ m) (he : 0 < e) (bn : n ≤ 1000000) (bd : d ≤ 1000) (bm : m ≤ 1000000) (be : e ≤ 1000) :
    dropperref07_Less.f (R n d).1 (R n d).2 (R m e).1 (R m e).2 = some (decide (n * e < m * d)) := by
  unfold dropperref07_Less.f
  rw [less_f hn hd hm he bn bd bm be]
end Go.Proofs.Ytpdcpekjafcohaa.Plain
