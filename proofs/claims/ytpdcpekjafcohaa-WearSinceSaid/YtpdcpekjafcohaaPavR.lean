import Derived.Test.YtpdcpekjafcohaaXWearx15
import Derived.Test.YtpdcpekjafcohaaXWearx16
import Derived.Test.YtpdcpekjafcohaaXWearx17
import Derived.Test.YtpdcpekjafcohaaPav
namespace Go.Proofs.Ytpdcpekjafcohaa.Plain
set_option linter.unusedVariables false
set_option linter.unusedSimpArgs false
open Go.RowKit Go.Proofs.Ytpdcpekjafcohaa.XWear Go.Proofs.YtpdcpekjafcohaaW.PrintWords Go.Proofs.YtpdcpekjafcohaaW.PrintLast Go.Proofs.YtpdcpekjafcohaaW.PrintMore

theorem divisor_l0 : ∀ (b a : Nat), a ≤ 4000000000000000000 → b ≤ 4000000000000000000 → 0 < Nat.gcd a b → Ev (fun k => dropperref07_divisor.l0 k (a : Int) (b : Int)) (Int.gcd a b : Int) := by
  intro b
  induction b using Nat.strongRecOn with
  | _ b ih =>
    intro a ha hb hp
    refine Ev.step (fun k => by rw [dropperref07_divisor.l0]) ?_
    by_cases h : b = 0
    · subst h
      refine ev_pos rfl (ev_const ?_)
      rw [Nat.gcd_zero_right] at hp
      have : mx (a : Int) 1 = (a : Int) := by unfold mx; split <;> omega
      rw [this]; simp
    · refine ev_neg (by omega) ?_
      have hlt : a % b < b := Nat.mod_lt _ (by omega)
      have e : Int.tmod (a : Int) (b : Int) = ((a % b : Nat) : Int) := by
        rw [Int.tmod_eq_emod_of_nonneg (by omega)]; rfl
      rw [e]
      have e3 : Nat.gcd b (a % b) = Nat.gcd a b := by rw [Nat.gcd_comm b, ← Nat.gcd_rec, Nat.gcd_comm]
      have := ih (a % b) hlt b hb (by omega) (by rw [e3]; exact hp)
      have e2 : Int.gcd (b : Int) ((a % b : Nat) : Int) = Int.gcd (a : Int) (b : Int) := e3
      rw [e2] at this
      exact this
theorem rratio_ev {n d : Int} (hn : 0 ≤ n) (hd : 0 < d) (hn2 : n ≤ 4000000000000000000) (hd2 : d ≤ 4000000000000000000) : Ev (fun k => dropperref07_ratio.f k n d) (R n d) := by
  obtain ⟨e1, e2⟩ := R_fits hn hd hn2 hd2
  have g := gcd_pos (n := n) hd
  have hg : Ev (fun k => dropperref07_divisor.f k n d) (Int.gcd n d : Int) := by
    obtain ⟨n', rfl⟩ := Int.eq_ofNat_of_zero_le hn
    obtain ⟨d', rfl⟩ := Int.eq_ofNat_of_zero_le (Int.le_of_lt hd)
    unfold dropperref07_divisor.f
    have w1 : wrap64 (-(n' : Int)) = -(n' : Int) := wrap_id (by omega) (by omega)
    have w2 : wrap64 (-(d' : Int)) = -(d' : Int) := wrap_id (by omega) (by omega)
    have m1 : mx (n' : Int) (-(n' : Int)) = (n' : Int) := by unfold mx; split <;> omega
    have m2 : mx (d' : Int) (-(d' : Int)) = (d' : Int) := by unfold mx; split <;> omega
    rw [w1, w2, m1, m2]
    exact divisor_l0 d' n' (by omega) (by omega) (by have : (0 : Int) < (Int.gcd (n' : Int) (d' : Int) : Int) := g; have e : Int.gcd (n' : Int) (d' : Int) = Nat.gcd n' d' := rfl; omega)
  unfold dropperref07_ratio.f
  refine Ev.bind hg (ev_neg (by omega) (ev_const ?_))
  rw [e1, e2]

/-! ### the document's nearest row -/
theorem pre_list (l : List Int) : ∀ (n : Nat) (x y : Nat), x + n = y → y ≤ l.length → pre ((l.take y).drop x) n = pre l y - pre l x := by
  intro n x y hxy hy
  have key : ∀ m, m ≤ n → pre ((l.take y).drop x) m = pre l (x + m) - pre l x := by
    intro m
    induction m with
    | zero => intro _; simp [pre]
    | succ m ih =>
      intro hm
      have h1 := ih (by omega)
      show pre ((l.take y).drop x) m + rd ((l.take y).drop x) (m : Int) = pre l (x + m) + rd l ((x + m : Nat) : Int) - pre l x
      rw [h1, rd_eq _ m (by simp; omega), rd_eq l (x + m) (by omega)]
      simp only [List.getElem_drop, List.getElem_take]
      omega
  have := key n (Nat.le_refl _)
  rw [this, hxy]
theorem mean_l0 (l : List Int) (h1 : 1 ≤ l.length) (h2 : l.length ≤ 40) (hv : ∀ x ∈ l, 0 ≤ x ∧ x ≤ 10000) : ∀ (d i : Nat), i + d = l.length →
    Ev (fun k => dropperref07_mean.l0 k l (pre l i) (i : Int)) (R (pre l l.length) l.length) := by
  intro d
  induction d with
  | zero =>
    intro i hi
    obtain rfl : i = l.length := by omega
    refine Ev.step (fun k => by rw [dropperref07_mean.l0]) ?_
    have hb := pre_bound hv 0 l.length
    simp only [Nat.zero_add] at hb
    have h0 : pre l 0 = 0 := rfl
    refine ev_neg (by omega) ?_
    exact Ev.bind (rratio_ev (by omega) (by omega) (by omega) (by omega)) (Ev.now _)
  | succ d ih =>
    intro i hi
    refine Ev.step (fun k => by rw [dropperref07_mean.l0]) ?_
    have hb := pre_bound hv 0 i
    simp only [Nat.zero_add] at hb
    have h0 : pre l 0 = 0 := rfl
    have hr := rd_bound hv i
    refine ev_pos (by omega) (ev_pos (by omega) ?_)
    have e1 : wrap64 (pre l i + rd l (i : Int)) = pre l (i + 1) := by
      show _ = pre l i + rd l (i : Int)
      exact wrap_id (by omega) (by omega)
    rw [e1, wrap_succ _ (by omega)]
    exact ih (i + 1) (by omega)
theorem mean_ev (r : List Int) (h2 : r.length ≤ 40) (hv : ∀ x ∈ r, 0 ≤ x ∧ x ≤ 10000) (a c : Nat) (hc : 1 ≤ c) (hac : a + c ≤ r.length) :
    Ev (fun k => dropperref07_mean.f k ((r.take (a + c)).drop a)) (R (sm r a c) c) := by
  have hlen : ((r.take (a + c)).drop a).length = c := by simp; omega
  have := mean_l0 ((r.take (a + c)).drop a) (by omega) (by omega) (fun x hx => hv x (List.mem_of_mem_take (List.mem_of_mem_drop hx))) c 0 (by omega)
  rw [hlen] at this
  rw [pre_list r c a (a + c) rfl hac] at this
  exact this
/-- the mean from a on that is the least of those that go beyond i, of those up to e -/
def Least (r : List Int) (i a c e : Nat) : Prop := i < a + c ∧ a + c ≤ e ∧ ∀ y, i < a + y → a + y ≤ e → sm r a c * y ≤ sm r a y * c
theorem between_l1 (r : List Int) (h2 : r.length ≤ 40) (hv : ∀ x ∈ r, 0 ≤ x ∧ x ≤ 10000) (i : Nat) (hi : i < r.length) (a : Nat) (hai : a ≤ i) (best : Int × Int) (res : Int × Int)
    (hend : ∀ c, Least r i a c r.length → Ev (fun k => if (a : Int) = 0 then (dropperref07_between.l0 k r (i : Int) (wrap64 ((a : Int) + 1)) (R (sm r a c) c).1 (R (sm r a c) c).2) else ((dropperref07_Less.f best.1 best.2 (R (sm r a c) c).1 (R (sm r a c) c).2).bind fun t301 => (if t301 = true then (dropperref07_between.l0 k r (i : Int) (wrap64 ((a : Int) + 1)) (R (sm r a c) c).1 (R (sm r a c) c).2) else (dropperref07_between.l0 k r (i : Int) (wrap64 ((a : Int) + 1)) best.1 best.2)))) res) :
    ∀ (d e c : Nat), e + d = r.length → i ≤ e → Least r i a c (max e (i + 1)) →
    Ev (fun k => dropperref07_between.l1 k r (i : Int) (a : Int) (e : Int) best.1 best.2 (R (sm r a c) c).1 (R (sm r a c) c).2) res := by
  intro d
  induction d with
  | zero =>
    intro e c he hie hl
    obtain rfl : e = r.length := by omega
    refine Ev.step (fun k => by rw [dropperref07_between.l1]) ?_
    refine ev_neg (by omega) (hend c ?_)
    have : max r.length (i + 1) = r.length := by omega
    rw [this] at hl
    exact hl
  | succ d ih =>
    intro e c he hie hl
    have hlt : e < r.length := by omega
    obtain ⟨l1, l2, l3⟩ := hl
    obtain ⟨y, hy⟩ : ∃ y, e + 1 = a + y := ⟨e + 1 - a, by omega⟩
    have by_ := sm_bound hv a y
    have bc_ := sm_bound hv a c
    refine Ev.step (fun k => by rw [dropperref07_between.l1]) ?_
    rw [wrap_succ e (by omega), hy]
    refine ev_pos (by omega) (ev_pos (by omega) (ev_pos (by omega) (ev_pos (by omega) ?_)))
    have e1 : ((a + y : Nat) : Int).toNat = a + y := Int.toNat_natCast _
    have e2 : ((a : Nat) : Int).toNat = a := Int.toNat_natCast _
    rw [e1, e2]
    refine Ev.bind (mean_ev r h2 hv a y (by omega) (by omega)) ?_
    rw [refLess_f (by omega) (by omega) (by omega) (by omega) (by omega) (by omega) (by omega) (by omega)]
    refine ev_some ?_
    have hmax : max (a + y) (i + 1) = a + y := by omega
    by_cases hlt2 : sm r a y * c < sm r a c * y
    · refine ev_pos (by simpa using hlt2) ?_
      refine ih (a + y) y (by omega) (by omega) ?_
      rw [hmax]
      refine ⟨by omega, by omega, fun z hz1 hz2 => ?_⟩
      by_cases hzy : z = y
      · subst hzy; exact Int.le_refl _
      · have h3 := l3 z hz1 (by omega)
        have c0 : (0 : Int) < (c : Int) := by omega
        have z0 : (0 : Int) ≤ (z : Int) := by omega
        have y0 : (0 : Int) ≤ (y : Int) := by omega
        clear l3 by_ bc_
        generalize sm r a y = A at *
        generalize sm r a c = B at *
        generalize sm r a z = D at *
        generalize hC : (c : Int) = C at *
        generalize hY : (y : Int) = Y at *
        generalize hZ : (z : Int) = Z at *
        apply Int.le_of_mul_le_mul_left (a := C) _ c0
        have k1 : A * C * Z ≤ B * Y * Z := Int.mul_le_mul_of_nonneg_right (Int.le_of_lt hlt2) z0
        have k2 : B * Z * Y ≤ D * C * Y := Int.mul_le_mul_of_nonneg_right h3 y0
        grind
    · refine ev_neg (by simpa using hlt2) ?_
      refine ih (a + y) c (by omega) (by omega) ?_
      rw [hmax]
      refine ⟨by omega, by omega, fun z hz1 hz2 => ?_⟩
      by_cases hzy : z = y
      · subst hzy; omega
      · exact l3 z hz1 (by omega)
/-- the greatest so far -/
def Best (r : List Int) (i a a0 c0 : Nat) : Prop := a0 ≤ i ∧ Least r i a0 c0 r.length ∧ ∀ a', a' < a → ∃ c', Least r i a' c' r.length ∧ sm r a' c' * c0 ≤ sm r a0 c0 * c'
theorem between_l0 (r : List Int) (h2 : r.length ≤ 40) (hv : ∀ x ∈ r, 0 ≤ x ∧ x ≤ 10000) (i : Nat) (hi : i < r.length) (res : Int × Int)
    (hres : ∀ a0 c0, Best r i (i + 1) a0 c0 → R (sm r a0 c0) c0 = res) :
    ∀ (d a : Nat) (best : Int × Int), a + d = i + 1 → (a = 0 ∨ ∃ a0 c0, best = R (sm r a0 c0) c0 ∧ Best r i a a0 c0) →
    Ev (fun k => dropperref07_between.l0 k r (i : Int) (a : Int) best.1 best.2) res := by
  intro d
  induction d with
  | zero =>
    intro a best ha hb
    obtain rfl : a = i + 1 := by omega
    refine Ev.step (fun k => by rw [dropperref07_between.l0]) ?_
    refine ev_neg (by omega) (ev_const ?_)
    rcases hb with hb | ⟨a0, c0, rfl, hb⟩
    · omega
    · rw [← hres a0 c0 hb]
  | succ d ih =>
    intro a best ha hb
    refine Ev.step (fun k => by rw [dropperref07_between.l0]) ?_
    obtain ⟨y, hy⟩ : ∃ y, i + 1 = a + y := ⟨i + 1 - a, by omega⟩
    have e1 : ((a + y : Nat) : Int).toNat = a + y := Int.toNat_natCast _
    have e2 : ((a : Nat) : Int).toNat = a := Int.toNat_natCast _
    refine ev_pos (by omega) ?_
    rw [wrap_succ i (by omega), hy]
    refine ev_pos (by omega) (ev_pos (by omega) (ev_pos (by omega) ?_))
    rw [e1, e2]
    refine Ev.bind (mean_ev r h2 hv a y (by omega) (by omega)) ?_
    refine between_l1 r h2 hv i hi a (by omega) best res (fun c hl => ?_) (r.length - i) i y (by omega) (Nat.le_refl _) ?_
    · by_cases h0 : a = 0
      · subst h0
        refine ev_pos rfl ?_
        rw [wrap_succ 0 (by omega)]
        refine ih 1 (R (sm r 0 c) c) (by omega) (.inr ⟨0, c, rfl, Nat.zero_le _, hl, fun a' ha' => ?_⟩)
        obtain rfl : a' = 0 := by omega
        exact ⟨c, hl, Int.le_refl _⟩
      · refine ev_neg (by omega) ?_
        rcases hb with hb | ⟨a0, c0, rfl, b1, b2, b3⟩
        · exact absurd hb h0
        · have l1 := hl.1
          have l2 := hl.2.1
          have m1 := b2.1
          have m2 := b2.2.1
          have s1 := sm_bound hv a0 c0
          have s2 := sm_bound hv a c
          rw [refLess_f (by omega) (by omega) (by omega) (by omega) (by omega) (by omega) (by omega) (by omega), wrap_succ a (by omega)]
          refine ev_some ?_
          by_cases hlt : sm r a0 c0 * c < sm r a c * c0
          · refine ev_pos (by simpa using hlt) ?_
            refine ih (a + 1) (R (sm r a c) c) (by omega) (.inr ⟨a, c, rfl, by omega, hl, fun a' ha' => ?_⟩)
            by_cases haa : a' = a
            · subst haa; exact ⟨c, hl, Int.le_refl _⟩
            · obtain ⟨c', q1, q2⟩ := b3 a' (by omega)
              refine ⟨c', q1, ?_⟩
              have z0 : (0 : Int) ≤ (c : Int) := by omega
              have z1 : (0 : Int) < (c0 : Int) := by omega
              have z2 : (0 : Int) ≤ (c' : Int) := by omega
              clear s1 s2 hres ih b3
              generalize sm r a0 c0 = A at *
              generalize sm r a c = B at *
              generalize sm r a' c' = D at *
              generalize (c : Int) = C at *
              generalize (c0 : Int) = X at *
              generalize (c' : Int) = Z at *
              apply Int.le_of_mul_le_mul_left (a := X) _ z1
              have k1 : D * X * C ≤ A * Z * C := Int.mul_le_mul_of_nonneg_right q2 z0
              have k2 : A * C * Z ≤ B * X * Z := Int.mul_le_mul_of_nonneg_right (Int.le_of_lt hlt) z2
              grind
          · refine ev_neg (by simpa using hlt) ?_
            refine ih (a + 1) (R (sm r a0 c0) c0) (by omega) (.inr ⟨a0, c0, rfl, b1, b2, fun a' ha' => ?_⟩)
            by_cases haa : a' = a
            · subst haa; exact ⟨c, hl, by omega⟩
            · exact b3 a' (by omega)
    · have : max i (i + 1) = i + 1 := by omega
      rw [this, hy]
      refine ⟨by omega, Nat.le_refl _, fun z h1 h2 => ?_⟩
      obtain rfl : z = y := by omega
      exact Int.le_refl _
/-- THE MEAN OF THE BLOCK is the greatest of the least means. -/
theorem between_ev (r : List Int) (h2 : r.length ≤ 40) (hv : ∀ x ∈ r, 0 ≤ x ∧ x ≤ 10000) (L : List Blk) (hc : Chain r 0 L r.length) (hp : L.Pairwise (Lt r)) (b : Blk) (hb : b ∈ L) (i : Nat) (h3 : b.f ≤ i) (h4 : i < b.f + b.c) :
    Ev (fun k => dropperref07_between.f k r (i : Int)) (mn_ r b) := by
  have hm := chain_mem r L 0 _ hc b hb
  have hsup := support r L _ hc hp b hb
  have hok := hm.1.1
  refine between_l0 r h2 hv i (by omega) (mn_ r b) (fun a0 c0 hB => ?_) (i + 1) 0 (0, 0) (by omega) (.inl rfl)
  obtain ⟨g1, g2, g3⟩ := hB
  obtain ⟨c', q1, q2⟩ := g3 b.f (by omega)
  have q0 := q1.1
  have q3 := q1.2.1
  have g4 := g2.1
  have g5 := g2.2.1
  -- the block's mean is not more than the least from its beginning, so not more than the best
  have u1 : sm r b.f b.c * c' ≤ sm r b.f c' * b.c := by
    have := hsup (b.f + c') q3
    unfold phi at this
    unfold sm at this ⊢
    have e : ((b.f + c' : Nat) : Int) = (b.f : Int) + (c' : Int) := by omega
    rw [e] at this
    grind
  -- the best is not more than the mean up to the block's end, so not more than the block's
  obtain ⟨y, hy⟩ : ∃ y, b.f + b.c = a0 + y := ⟨b.f + b.c - a0, by omega⟩
  have u2 := g2.2.2 y (by omega) (by omega)
  have u3 : sm r a0 y * b.c ≤ sm r b.f b.c * y := by
    have := hsup a0 (by omega)
    unfold phi at this
    have ey : pre r (a0 + y) = pre r (b.f + b.c) := by rw [hy]
    unfold sm at this ⊢
    rw [ey]
    have e : (b.f : Int) + (b.c : Int) = (a0 : Int) + (y : Int) := by omega
    have e2 : (y : Int) = (b.f : Int) + (b.c : Int) - (a0 : Int) := by omega
    rw [e2]
    grind
  have s1 := sm_bound hv a0 c0
  have s2 := sm_bound hv b.f b.c
  refine R_eq (by omega) (by omega) (by omega) (by omega) ?_
  have z1 : (0 : Int) < (c' : Int) := by omega
  have z2 : (0 : Int) < (y : Int) := by omega
  have z3 : (0 : Int) ≤ (b.c : Int) := by omega
  have z4 : (0 : Int) ≤ (c0 : Int) := by omega
  clear hsup g3 g2 q1 s1 s2
  generalize sm r a0 c0 = A at *
  generalize sm r b.f b.c = S at *
  generalize sm r b.f c' = D at *
  generalize sm r a0 y = E at *
  generalize (c0 : Int) = X at *
  generalize (b.c : Int) = C at *
  generalize (c' : Int) = Z at *
  generalize (y : Int) = Y at *
  apply Int.le_antisymm
  · apply Int.le_of_mul_le_mul_left (a := Y) _ z2
    have k1 : A * Y * C ≤ E * X * C := Int.mul_le_mul_of_nonneg_right u2 z3
    have k2 : E * C * X ≤ S * Y * X := Int.mul_le_mul_of_nonneg_right u3 z4
    grind
  · apply Int.le_of_mul_le_mul_left (a := Z) _ z1
    have k1 : S * Z * X ≤ D * C * X := Int.mul_le_mul_of_nonneg_right u1 z4
    have k2 : D * X * C ≤ A * Z * C := Int.mul_le_mul_of_nonneg_right q2 z3
    grind
theorem near_l0 (r : List Int) (h2 : r.length ≤ 40) (hv : ∀ x ∈ r, 0 ≤ x ∧ x ≤ 10000) (L : List Blk) (hc : Chain r 0 L r.length) (hp : L.Pairwise (Lt r)) : ∀ (d i : Nat), i + d = r.length →
    Ev (fun k => dropperref07_Nearest.l0 k r ((nearL r L).take i) (i : Int)) (nearL r L, 0) := by
  intro d
  have hlen := nearL_len r L 0 _ hc
  induction d with
  | zero =>
    intro i hi
    refine Ev.step (fun k => by rw [dropperref07_Nearest.l0]) ?_
    rw [List.take_of_length_le (by omega)]
    exact ev_neg (by omega) (Ev.now _)
  | succ d ih =>
    intro i hi
    refine Ev.step (fun k => by rw [dropperref07_Nearest.l0]) ?_
    obtain ⟨b, hb, q1, q2, q3⟩ := nearL_get r L 0 _ hc i (Nat.zero_le _) (by omega)
    refine ev_pos (by omega) (Ev.bind (between_ev r h2 hv L hc hp b hb i q1 q2) ?_)
    refine ev_pos (by rw [List.length_take]; omega) ?_
    rw [wrap_succ _ (by omega)]
    have e : (nearL r L).take i ++ [(⟨(mn_ r b).1, (mn_ r b).2⟩ : S35)] = (nearL r L).take (i + 1) := by
      rw [List.take_add_one]
      rw [Nat.sub_zero] at q3
      rw [q3]; rfl
    rw [e]
    exact ih (i + 1) (by omega)
end Go.Proofs.Ytpdcpekjafcohaa.Plain
