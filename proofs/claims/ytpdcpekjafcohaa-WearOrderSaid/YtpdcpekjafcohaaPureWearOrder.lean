/- Of valid readings none of which is less than another list's, the nearest row is nowhere less. No condition but the statement's own. -/
import Derived.Test.YtpdcpekjafcohaaXWearx12
import Derived.Test.YtpdcpekjafcohaaXWearx11
import Derived.Test.YtpdcpekjafcohaaNear
namespace Go.Proofs.Ytpdcpekjafcohaa.Pure
set_option linter.unusedVariables false
set_option linter.unusedSimpArgs false
open Go.RowKit Go.Proofs.Ytpdcpekjafcohaa.XWear Go.Proofs.YtpdcpekjafcohaaW.PrintWords Go.Proofs.YtpdcpekjafcohaaW.PrintLast Go.Proofs.YtpdcpekjafcohaaW.PrintMore
open Go.Proofs.Ytpdcpekjafcohaa.Plain

theorem sm_le (r s : List Int) (h : ∀ i : Nat, rd r (i : Int) ≤ rd s (i : Int)) (a : Nat) : ∀ c, sm r a c ≤ sm s a c := by
  intro c
  induction c with
  | zero => simp [sm]
  | succ c ih =>
    rw [sm_add, sm_add, sm_one, sm_one]
    have := h (a + c)
    omega
/-- the nearest row of greater readings is not less -/
theorem order (r s : List Int) (hr : ok r = true) (hs : ok s = true) (hlen : s.length = r.length) (h : ∀ i : Nat, rd r (i : Int) ≤ rd s (i : Int)) (L M : List Blk) (hL : Row r L) (hM : Row s M)
    (b b' : Blk) (hb : b ∈ L) (hb' : b' ∈ M) (i : Nat) (h1 : b.f ≤ i) (h2 : i < b.f + b.c) (h3 : b'.f ≤ i) (h4 : i < b'.f + b'.c) : sm r b.f b.c * b'.c ≤ sm s b'.f b'.c * b.c := by
  have m1 := chain_mem r L 0 _ hL.ch b hb
  have m2 := chain_mem s M 0 _ hM.ch b' hb'
  have c1 := m1.1.1
  have c2 := m2.1.1
  obtain ⟨y, hy⟩ : ∃ y, b'.f + b'.c = b.f + y := ⟨b'.f + b'.c - b.f, by omega⟩
  have u1 : sm r b.f b.c * y ≤ sm r b.f y * b.c := by
    have := support r L _ hL.ch hL.pw b hb (b.f + y) (by omega)
    unfold phi at this
    unfold sm at this ⊢
    have e : ((b.f + y : Nat) : Int) = (b.f : Int) + (y : Int) := by omega
    rw [e] at this
    grind
  have u2 : sm s b.f y * b'.c ≤ sm s b'.f b'.c * y := by
    have := support s M _ hM.ch hM.pw b' hb' b.f (by omega)
    unfold phi at this
    have ey : pre s (b.f + y) = pre s (b'.f + b'.c) := by rw [hy]
    unfold sm at this ⊢
    rw [ey]
    have e2 : (y : Int) = (b'.f : Int) + (b'.c : Int) - (b.f : Int) := by omega
    rw [e2]
    grind
  have u3 := sm_le r s h b.f y
  have y0 : (0 : Int) < (y : Int) := by omega
  have z1 : (0 : Int) ≤ (b.c : Int) := by omega
  have z2 : (0 : Int) ≤ (b'.c : Int) := by omega
  clear m1 m2
  generalize sm r b.f b.c = A at *
  generalize sm s b'.f b'.c = B at *
  generalize sm r b.f y = D at *
  generalize sm s b.f y = E at *
  generalize (b.c : Int) = C at *
  generalize (b'.c : Int) = X at *
  generalize (y : Int) = Y at *
  apply Int.le_of_mul_le_mul_left (a := Y) _ y0
  have k1 : A * Y * X ≤ D * C * X := Int.mul_le_mul_of_nonneg_right u1 z2
  have k2 : E * X * C ≤ B * Y * C := Int.mul_le_mul_of_nonneg_right u2 z1
  have k3 : D * (C * X) ≤ E * (C * X) := Int.mul_le_mul_of_nonneg_right u3 (Int.mul_nonneg z1 z2)
  grind

theorem order_l1 (r s : List Int) (hr : ok r = true) (hs : ok s = true) (hlen : s.length = r.length) (h : ∀ i : Nat, rd r (i : Int) ≤ rd s (i : Int)) (L M : List Blk) (hL : Row r L) (hM : Row s M) :
    ∀ (d i : Nat), i + d = r.length → Ev (fun k => dropperlaw07_WearOrder.l1 k r (nearL r L) (nearL s M) (i : Int)) true := by
  intro d
  have hr' := (ok_iff r).1 hr
  have hs' := (ok_iff s).1 hs
  have n1 := nearL_len r L 0 _ hL.ch
  have n2 := nearL_len s M 0 _ hM.ch
  rw [Nat.sub_zero] at n1 n2
  induction d with
  | zero =>
    intro i hi
    refine Ev.step (fun k => by rw [dropperlaw07_WearOrder.l1]) ?_
    exact ev_neg (by omega) (Ev.bind first_ev (Ev.now _))
  | succ d ih =>
    intro i hi
    obtain ⟨b, hb, q1, q2, q3⟩ := nearL_get r L 0 _ hL.ch i (Nat.zero_le _) (by omega)
    obtain ⟨b', hb', t1, t2, t3⟩ := nearL_get s M 0 _ hM.ch i (Nat.zero_le _) (by omega)
    rw [Nat.sub_zero] at q3 t3
    have g1 : rd_T35 (nearL r L) (i : Int) = toR (mn_ r b) := by
      rw [rd_S35 _ i (by omega)]
      have := q3
      rw [List.getElem?_eq_getElem (by omega)] at this
      exact Option.some.inj this
    have g2 : rd_T35 (nearL s M) (i : Int) = toR (mn_ s b') := by
      rw [rd_S35 _ i (by omega)]
      have := t3
      rw [List.getElem?_eq_getElem (by omega)] at this
      exact Option.some.inj this
    have m1 := chain_mem r L 0 _ hL.ch b hb
    have m2 := chain_mem s M 0 _ hM.ch b' hb'
    have c1 := m1.1.1
    have c2 := m2.1.1
    have s1 := sm_bound hr'.2.2 b.f b.c
    have s2 := sm_bound hs'.2.2 b'.f b'.c
    have p1 := R_pos (n := sm r b.f b.c) (d := b.c) (by omega)
    have p2 := R_pos (n := sm s b'.f b'.c) (d := b'.c) (by omega)
    refine Ev.step (fun k => by rw [dropperlaw07_WearOrder.l1]) ?_
    rw [g1, g2]
    refine ev_pos (by omega) (ev_pos (by omega) (ev_pos (by omega) (ev_neg (by simp only [toR, mn_]; omega) (ev_pos (by omega) (ev_neg (by simp only [toR, mn_]; omega) ?_)))))
    have hless : dropperref07_Less.f (toR (mn_ s b')).f0 (toR (mn_ s b')).f1 (toR (mn_ r b)).f0 (toR (mn_ r b)).f1 = some (decide (sm s b'.f b'.c * b.c < sm r b.f b.c * b'.c)) :=
      refLess_f (by omega) (by omega) (by omega) (by omega) (by omega) (by omega) (by omega) (by omega)
    rw [hless]
    have ho := order r s hr hs hlen h L M hL hM b b' hb hb' i q1 q2 t1 t2
    refine ev_some (ev_neg (by simp; omega) ?_)
    rw [wrap_succ _ (by omega)]
    exact ih (i + 1) (by omega)

/-- the greater readings -/
theorem order_l0 (r more : List Int) (hr : ok r = true) (hm : more.length ≤ 100) : ∀ (d i : Nat) (acc : List Int), i + d = r.length → acc.length = i →
    (∀ j : Nat, j < i → rd r (j : Int) ≤ rd acc (j : Int) ∧ rd acc (j : Int) ≤ 10000) → Ev (fun k => dropperlaw07_WearOrder.l0 k r more acc (i : Int)) true := by
  intro d
  have hr' := (ok_iff r).1 hr
  induction d with
  | zero =>
    intro i acc hi ha hb
    obtain rfl : i = r.length := by omega
    have hs : ok acc = true := by
      rw [ok_iff]
      refine ⟨by omega, by omega, fun x hx => ?_⟩
      obtain ⟨j, hj, rfl⟩ := List.mem_iff_getElem.1 hx
      have h1 := hb j (by omega)
      have h2 := rd_bound hr'.2.2 j
      rw [rd_eq acc j hj] at h1
      omega
    have hge : ∀ j : Nat, rd r (j : Int) ≤ rd acc (j : Int) := by
      intro j
      by_cases hj : j < r.length
      · exact (hb j hj).1
      · have e1 : rd r (j : Int) = 0 := by simp [rd, List.getD_eq_getElem?_getD, List.getElem?_eq_none (show r.length ≤ j by omega)]
        have e2 : rd acc (j : Int) = 0 := by simp [rd, List.getD_eq_getElem?_getD, List.getElem?_eq_none (show acc.length ≤ j by omega)]
        omega
    obtain ⟨L, hL⟩ := row r hr
    obtain ⟨M, hM⟩ := row acc hs
    have n1 := nearL_len r L 0 _ hL.ch
    have n2 := nearL_len acc M 0 _ hM.ch
    rw [Nat.sub_zero] at n1 n2
    refine Ev.step (fun k => by rw [dropperlaw07_WearOrder.l0]) ?_
    refine ev_neg (by omega) (Ev.bind (Nearest_ok r hr L hL) (Ev.bind (Nearest_ok acc hs M hM) ?_))
    refine ev_pos rfl (ev_pos rfl (ev_pos (by simp only; omega) ?_))
    refine Ev.step (fun k => by rw [dropperlaw07_WearOrder.j2]) ?_
    refine ev_neg (by simp only [bne_iff_ne, ne_eq, Decidable.not_not]; omega) ?_
    exact order_l1 r acc hr hs ha hge L M hL hM r.length 0 (by omega)
  | succ d ih =>
    intro i acc hi ha hb
    have hlt : i < r.length := by omega
    have hb1 := rd_bound hr'.2.2 i
    refine Ev.step (fun k => by rw [dropperlaw07_WearOrder.l0]) ?_
    refine ev_pos (by omega) (ev_pos (by omega) ?_)
    have hnext : ∀ x, rd r (i : Int) ≤ x → x ≤ 10000 → Ev (fun k => dropperlaw07_WearOrder.l0 k r more (acc ++ [x]) (wrap64 ((i : Int) + 1))) true := by
      intro x hx hx2
      rw [wrap_succ _ (by omega)]
      refine ih (i + 1) (acc ++ [x]) (by omega) (by simp; omega) (fun j hj => ?_)
      by_cases hji : j = i
      · subst hji
        have e : rd (acc ++ [x]) (j : Int) = x := by
          rw [rd_eq _ j (by simp; omega)]
          simp [← ha]
        rw [e]; exact ⟨hx, hx2⟩
      · have e : rd (acc ++ [x]) (j : Int) = rd acc (j : Int) := by
          rw [rd_eq _ j (by simp; omega), rd_eq acc j (by omega), List.getElem_append_left]
        rw [e]; exact hb j (by omega)
    by_cases h0 : (more.length : Int) > 0
    · refine ev_pos h0 (ev_neg (by omega) ?_)
      have e1 : Int.tmod (i : Int) (more.length : Int) = ((i % more.length : Nat) : Int) := by
        rw [Int.tmod_eq_emod_of_nonneg (by omega)]; rfl
      have hmod : i % more.length < more.length := Nat.mod_lt _ (by omega)
      rw [e1]
      refine ev_pos (by omega) (ev_pos (by omega) (ev_pos (by omega) ?_))
      have hq : 0 ≤ mx 0 (mn 10000 (rd more ((i % more.length : Nat) : Int))) ∧ mx 0 (mn 10000 (rd more ((i % more.length : Nat) : Int))) ≤ 10000 := by
        unfold mx mn
        (repeat split) <;> omega
      have e2 : wrap64 (rd r (i : Int) + mx 0 (mn 10000 (rd more ((i % more.length : Nat) : Int)))) = rd r (i : Int) + mx 0 (mn 10000 (rd more ((i % more.length : Nat) : Int))) := wrap_id (by omega) (by omega)
      rw [e2]
      refine hnext _ ?_ ?_
      · generalize mx 0 (mn 10000 (rd more ((i % more.length : Nat) : Int))) = q at hq
        unfold mn
        split <;> omega
      · unfold mn
        split <;> omega
    · exact ev_neg h0 (ev_pos (by omega) (hnext _ (Int.le_refl _) hb1.2))

theorem WearOrder : dropperlaw07_WearOrder.Pure := by
  intro r more hm _ _ _ _ _
  have hl : r.length ≤ 4000000000000000000 := by unfold maxLen at hm; omega
  refine Ev.rounds (r := true) (g := fun k => dropperlaw07_WearOrder.f k r more) ?_
  unfold dropperlaw07_WearOrder.f
  refine Ev.bind (refValid r hl) ?_
  by_cases h : ok r = true
  · refine ev_pos h ?_
    refine Ev.step (fun k => by rw [dropperlaw07_WearOrder.j0]) ?_
    by_cases h1 : (more.length : Int) > 100
    · exact ev_pos (by simpa using h1) (Ev.bind first_ev (Ev.now _))
    · refine ev_neg (by simpa using h1) ?_
      exact order_l0 r more h (by omega) r.length 0 [] (by omega) rfl (fun j hj => by omega)
  · refine ev_neg h ?_
    refine Ev.step (fun k => by rw [dropperlaw07_WearOrder.j0]) ?_
    exact ev_pos rfl (Ev.bind first_ev (Ev.now _))

end Go.Proofs.Ytpdcpekjafcohaa.Pure
