import Derived.Test.YtpdcpekjafcohaaXWearx17
import Derived.Test.YtpdcpekjafcohaaXWearx18
import Derived.Test.YtpdcpekjafcohaaNear
import Derived.Test.YtpdcpekjafcohaaPavR
namespace Go.Proofs.Ytpdcpekjafcohaa.Plain
set_option linter.unusedVariables false
set_option linter.unusedSimpArgs false
open Go.RowKit Go.Proofs.Ytpdcpekjafcohaa.XWear Go.Proofs.YtpdcpekjafcohaaW.PrintWords Go.Proofs.YtpdcpekjafcohaaW.PrintLast Go.Proofs.YtpdcpekjafcohaaW.PrintMore

theorem RNearest_ok (r : List Int) (h : ok r = true) (L : List Blk) (hL : Row r L) : Ev (fun k => dropperref07_Nearest.f k r) (nearL r L, 0) := by
  have h' := (ok_iff r).1 h
  unfold dropperref07_Nearest.f
  refine Ev.bind (refValid r (by omega)) (ev_pos h ?_)
  have := near_l0 r h'.2.1 h'.2.2 L hL.ch hL.pw r.length 0 (by omega)
  exact this
theorem RNearest_no (r : List Int) (h : ¬ ok r = true) (hl : r.length ≤ 4000000000000000000) : Ev (fun k => dropperref07_Nearest.f k r) ([], 70) := by
  unfold dropperref07_Nearest.f
  exact Ev.bind (refValid r hl) (ev_neg h (Ev.now _))

/-! ### where the blocks begin -/
def begins (L : List Blk) : List Int := L.map fun b => (b.f : Int)
theorem begins_l0 (r : List Int) (L : List Blk) (hl : L.length ≤ 40) : ∀ (d i : Nat), i + d = L.length →
    Ev (fun k => wear_Blocks.l0 k (begins (L.take i)) (L.map (toS r)) (L.length : Int) (i : Int)) (begins L, 0) := by
  intro d
  induction d with
  | zero =>
    intro i hi
    obtain rfl : i = L.length := by omega
    refine Ev.step (fun k => by rw [wear_Blocks.l0]) ?_
    rw [List.take_length]
    exact ev_neg (by omega) (Ev.now _)
  | succ d ih =>
    intro i hi
    have hlt : i < L.length := by omega
    refine Ev.step (fun k => by rw [wear_Blocks.l0]) ?_
    have hg : rd_T74 (L.map (toS r)) (i : Int) = toS r L[i] := by
      rw [rd_S74 _ i (by simpa using hlt)]; simp
    rw [hg]
    refine ev_pos (by omega) (ev_pos (by omega) (ev_pos (by simp; omega) (ev_pos (by simp [begins]; omega) ?_)))
    rw [wrap_succ _ (by omega)]
    have e : begins (L.take i) ++ [(toS r L[i]).f0] = begins (L.take (i + 1)) := by
      rw [List.take_succ_eq_append_getElem hlt]; unfold begins; rw [List.map_append]; rfl
    rw [e]
    exact ih (i + 1) (by omega)
theorem Blocks_ok (r : List Int) (h : ok r = true) (L : List Blk) (hL : Row r L) : Ev (fun k => wear_Blocks.f k r) (begins L, 0) := by
  have h' := (ok_iff r).1 h
  have hle := chain_le r L 0 _ hL.ch
  unfold wear_Blocks.f
  rw [valid_f]
  refine ev_some (ev_pos h (Ev.bind hL.ev ?_))
  have := begins_l0 r L (by omega) L.length 0 (by omega)
  rw [List.length_map]
  exact this
theorem Blocks_no (r : List Int) (h : ¬ ok r = true) : Ev (fun k => wear_Blocks.f k r) ([], 70) := by
  unfold wear_Blocks.f
  rw [valid_f]
  exact ev_some (ev_neg h (Ev.now _))

theorem chain_from (r : List Int) (L : List Blk) : ∀ f n, Chain r f L n → ∀ b ∈ L, f ≤ b.f := by
  induction L with
  | nil => intro f n h b hb; simp at hb
  | cons a L ih =>
    intro f n h b hb
    obtain ⟨rfl, hok, hc⟩ := h
    rcases List.mem_cons.1 hb with rfl | hb
    · exact Nat.le_refl _
    · have := ih _ _ hc b hb
      omega
/-- those that begin before a place -/
def starts (L : List Blk) (i : Nat) : List Int := begins (L.filter fun b => decide (b.f < i))
/-- around the block that holds a place -/
theorem around (r : List Int) (L : List Blk) (n : Nat) (hc : Chain r 0 L n) (hp : L.Pairwise (Lt r)) (b : Blk) (hb : b ∈ L) (i : Nat) (h1 : b.f ≤ i) (h2 : i < b.f + b.c) :
    starts L (i + 1) = (if b.f = i then starts L i ++ [(i : Int)] else starts L i) ∧ ∀ b' ∈ L, b'.f < i → i - 1 < b'.f + b'.c → (if b.f = i then Lt r b' b else b' = b) := by
  obtain ⟨l1, l2, rfl⟩ := List.append_of_mem hb
  obtain ⟨m, c1, c2⟩ := (chain_append r l1 (b :: l2) 0 n).1 hc
  obtain ⟨rfl, hok, c3⟩ := c2
  have k1 : ∀ a ∈ l1, a.f + a.c ≤ b.f ∧ 1 ≤ a.c := fun a ha => by
    have := chain_mem r l1 0 b.f c1 a ha
    exact ⟨this.2, this.1.1⟩
  have k2 := chain_from r l2 _ _ c3
  obtain ⟨_, _, p3⟩ := List.pairwise_append.1 hp
  have f1 : ∀ j, b.f ≤ j → l1.filter (fun b => decide (b.f < j)) = l1 := by
    intro j hj
    rw [List.filter_eq_self]
    intro a ha
    have := k1 a ha
    simp; omega
  have f2 : ∀ j, j ≤ i + 1 → l2.filter (fun b => decide (b.f < j)) = [] := by
    intro j hj
    rw [List.filter_eq_nil_iff]
    intro a ha
    have := k2 a ha
    simp; omega
  constructor
  · unfold starts
    rw [List.filter_append, List.filter_append, List.filter_cons, List.filter_cons, f1 _ (by omega), f1 _ h1, f2 _ (Nat.le_refl _), f2 _ (by omega)]
    by_cases h : b.f = i
    · rw [if_pos h, if_pos (by simp; omega), if_neg (by simp; omega)]
      simp [begins, h]
    · rw [if_neg h, if_pos (by simp; omega), if_pos (by simp; omega)]
  · intro b' hb' h3 h4
    rcases List.mem_append.1 hb' with hb' | hb'
    · have := k1 b' hb'
      by_cases h : b.f = i
      · rw [if_pos h]; exact p3 b' hb' b (by simp)
      · omega
    · rcases List.mem_cons.1 hb' with rfl | hb'
      · rw [if_neg (by omega)]
      · have := k2 b' hb'
        omega
theorem mn_lt_ne (r : List Int) (hv : ∀ x ∈ r, 0 ≤ x ∧ x ≤ 10000) (a b : Blk) (ha : 1 ≤ a.c) (hb : 1 ≤ b.c) (h : Lt r a b) : mn_ r a ≠ mn_ r b := by
  intro e
  have := (R_cmp (n := sm r a.f a.c) (d := a.c) (m := sm r b.f b.c) (e := b.c) (by omega) (by omega)).2 h
  unfold mn_ at e
  rw [e] at this
  omega
theorem rblocks_l0 (r : List Int) (h2 : r.length ≤ 40) (hv : ∀ x ∈ r, 0 ≤ x ∧ x ≤ 10000) (L : List Blk) (hc : Chain r 0 L r.length) (hp : L.Pairwise (Lt r)) : ∀ (d i : Nat), i + d = r.length →
    Ev (fun k => dropperref07_Blocks.l0 k (nearL r L) 0 (starts L i) (i : Int)) (begins L, 0) := by
  intro d
  have hlen := nearL_len r L 0 _ hc
  rw [Nat.sub_zero] at hlen
  have hLlen := chain_le r L 0 _ hc
  induction d with
  | zero =>
    intro i hi
    refine Ev.step (fun k => by rw [dropperref07_Blocks.l0]) ?_
    refine ev_neg (by omega) (ev_const ?_)
    have : L.filter (fun b => decide (b.f < i)) = L := by
      rw [List.filter_eq_self]
      intro a ha
      have := chain_mem r L 0 _ hc a ha
      have h3 := this.1.1
      have h4 := this.2
      simp; omega
    simp [starts, this]
  | succ d ih =>
    intro i hi
    have hlt : i < r.length := by omega
    obtain ⟨b, hb, q1, q2, q3⟩ := nearL_get r L 0 _ hc i (Nat.zero_le _) hlt
    rw [Nat.sub_zero] at q3
    obtain ⟨s1, s2⟩ := around r L _ hc hp b hb i q1 q2
    have hst : (starts L i).length ≤ 40 := by
      have := List.length_filter_le (fun b : Blk => decide (b.f < i)) L
      simp only [starts, begins, List.length_map]
      omega
    have hrec := ih (i + 1) (by omega)
    have hw := wrap_succ i (by omega)
    refine Ev.step (fun k => by rw [dropperref07_Blocks.l0]) ?_
    refine ev_pos (by omega) ?_
    by_cases h0 : i = 0
    · subst h0
      refine ev_pos rfl (ev_pos (by omega) ?_)
      rw [hw]
      rw [s1, if_pos (by omega)] at hrec
      exact hrec
    · refine ev_neg (by omega) ?_
      have e1 : wrap64 ((i : Int) - 1) = ((i - 1 : Nat) : Int) := by rw [wrap_id] <;> omega
      obtain ⟨b', hb', t1, t2, t3⟩ := nearL_get r L 0 _ hc (i - 1) (Nat.zero_le _) (by omega)
      rw [Nat.sub_zero] at t3
      have g1 : rd_T35 (nearL r L) (i : Int) = toR (mn_ r b) := by
        rw [rd_S35 _ i (by omega)]
        have := q3
        rw [List.getElem?_eq_getElem (by omega)] at this
        exact Option.some.inj this
      have g2 : rd_T35 (nearL r L) ((i - 1 : Nat) : Int) = toR (mn_ r b') := by
        rw [rd_S35 _ (i - 1) (by omega)]
        have := t3
        rw [List.getElem?_eq_getElem (by omega)] at this
        exact Option.some.inj this
      rw [e1, g1, g2]
      refine ev_pos (by omega) (ev_pos (by omega) (ev_pos (by omega) ?_))
      have hs := s2 b' hb' (by omega) t2
      by_cases hbi : b.f = i
      · rw [if_pos hbi] at hs
        have hne := mn_lt_ne r hv b' b (chain_mem r L 0 _ hc b' hb').1.1 (chain_mem r L 0 _ hc b hb).1.1 hs
        refine ev_pos ?_ (ev_pos (by omega) ?_)
        · simp only [toR]
          rw [Bool.or_eq_true, Bool.not_eq_true', Bool.not_eq_true', beq_eq_false_iff_ne, beq_eq_false_iff_ne]
          by_cases h5 : (mn_ r b).1 = (mn_ r b').1
          · right
            intro h6
            exact hne (Prod.ext h5.symm h6.symm)
          · exact .inl h5
        · rw [hw]
          rw [s1, if_pos hbi] at hrec
          exact hrec
      · rw [if_neg hbi] at hs
        subst hs
        refine ev_neg (by simp) ?_
        rw [hw]
        rw [s1, if_neg hbi] at hrec
        exact hrec
theorem RBlocks_ok (r : List Int) (h : ok r = true) (L : List Blk) (hL : Row r L) : Ev (fun k => dropperref07_Blocks.f k r) (begins L, 0) := by
  have h' := (ok_iff r).1 h
  unfold dropperref07_Blocks.f
  refine Ev.bind (RNearest_ok r h L hL) ?_
  have := rblocks_l0 r h'.2.1 h'.2.2 L hL.ch hL.pw r.length 0 (by omega)
  have e : starts L 0 = [] := by simp [starts, begins]
  rw [e] at this
  exact this
theorem RBlocks_no (r : List Int) (h : ¬ ok r = true) (hl : r.length ≤ 4000000000000000000) : Ev (fun k => dropperref07_Blocks.f k r) ([], 70) := by
  unfold dropperref07_Blocks.f
  refine Ev.bind (RNearest_no r h hl) ?_
  refine Ev.step (fun k => by rw [dropperref07_Blocks.l0]) ?_
  exact ev_neg (by simp) (Ev.now _)
end Go.Proofs.Ytpdcpekjafcohaa.Plain
