/- A limit is come to at the beginning of a block, and a greater limit is never come to earlier, for valid readings. The nearest row is the same all over a block, so the first index at which it is at least a limit begins one. No condition but the statement's own. -/
import Derived.Test.YtpdcpekjafcohaaXWearx38
import Derived.Test.YtpdcpekjafcohaaSayWearDue
import Derived.Test.YtpdcpekjafcohaaDue
import Derived.Test.YtpdcpekjafcohaaNearR
namespace Go.Proofs.Ytpdcpekjafcohaa.Pure
set_option linter.unusedVariables false
set_option linter.unusedSimpArgs false
open Go.RowKit Go.Proofs.Ytpdcpekjafcohaa.XWear Go.Proofs.YtpdcpekjafcohaaW.PrintWords Go.Proofs.YtpdcpekjafcohaaW.PrintLast
open Go.Proofs.Ytpdcpekjafcohaa.Plain

theorem idx_some {p : S35 → Bool} {l : List S35} (h : ¬ wear_Due.idxFrom p l < 0) : ∃ i, ∃ hi : i < l.length, wear_Due.idxFrom p l = i ∧ p l[i] = true ∧ ∀ j (hj : j < l.length), j < i → p l[j] = false := by
  unfold wear_Due.idxFrom at h ⊢
  by_cases ha : l.any p = true
  · have hx : ∃ x ∈ l, p x = true := List.any_eq_true.1 ha
    have hlt := List.findIdx_lt_length_of_exists hx
    refine ⟨l.findIdx p, hlt, by rw [if_pos ha], List.findIdx_getElem (w := hlt), fun j hj hji => ?_⟩
    have := List.not_of_lt_findIdx hji
    simpa using this
  · rw [if_neg ha] at h
    omega
/-- a greater limit is come to later, if at all -/
theorem due_mono (r : List Int) (h : ok r = true) (L : List Blk) (hL : Row r L) (a b : Int) (h0 : 0 ≤ a) (hab : a ≤ b) (hb : b ≤ 10000) (hd : ¬ dueAt (nearL r L) b < 0) :
    ¬ dueAt (nearL r L) a < 0 ∧ ¬ dueAt (nearL r L) b < dueAt (nearL r L) a := by
  have h' := (ok_iff r).1 h
  have n1 := nearL_len r L 0 _ hL.ch
  obtain ⟨i, hi, e1, p1, q1⟩ := idx_some hd
  obtain ⟨c, hc, g1, g2, g3⟩ := nearL_get r L 0 _ hL.ch i (by omega) (by omega)
  have hok := chain_mem r L 0 _ hL.ch c hc
  rw [Nat.sub_zero, List.getElem?_eq_getElem hi] at g3
  have e2 := Option.some.inj g3
  have hcc : 1 ≤ c.c := hok.1.1
  have hsm := sm_bound h'.2.2 c.f c.c
  have hD := R_pos (n := sm r c.f c.c) (d := (c.c : Int)) (by omega)
  have hD2 := R_le (n := sm r c.f c.c) (d := (c.c : Int)) hsm.1 (by omega)
  have pa : wear_Due.due a (nearL r L)[i] = true := by
    rw [e2] at p1 ⊢
    unfold wear_Due.due toR mn_ at *
    simp only [decide_eq_true_eq] at *
    generalize R (sm r c.f c.c) c.c = x at *
    have b1 : x.2 ≤ 40 := by omega
    rw [wrap_mul (A := 10000) (B := 40) (by omega) (by omega) (by omega) b1 (by omega)] at p1
    rw [wrap_mul (A := 10000) (B := 40) (by omega) (by omega) (by omega) b1 (by omega)]
    have : a * x.2 ≤ b * x.2 := Int.mul_le_mul_of_nonneg_right hab (by omega)
    omega
  have hany : (nearL r L).any (wear_Due.due a) = true := List.any_eq_true.2 ⟨_, List.getElem_mem hi, pa⟩
  have hna : ¬ dueAt (nearL r L) a < 0 := by
    unfold dueAt wear_Due.idxFrom
    rw [if_pos hany]; omega
  obtain ⟨j, hj, e3, p3, q3⟩ := idx_some hna
  refine ⟨hna, ?_⟩
  unfold dueAt at *
  rw [e1, e3]
  intro hij
  have := q3 i hi (by omega)
  rw [pa] at this
  cases this
/-- where a row comes to a limit, a block begins -/
theorem due_begins (r : List Int) (h : ok r = true) (L : List Blk) (hL : Row r L) (a : Int) (hd : ¬ dueAt (nearL r L) a < 0) : dueAt (nearL r L) a ∈ begins L := by
  have h' := (ok_iff r).1 h
  have n1 := nearL_len r L 0 _ hL.ch
  obtain ⟨i, hi, e1, p1, q1⟩ := idx_some hd
  obtain ⟨c, hc, g1, g2, g3⟩ := nearL_get r L 0 _ hL.ch i (by omega) (by omega)
  unfold dueAt
  rw [e1]
  by_cases hci : c.f = i
  · exact List.mem_map.2 ⟨c, hc, by rw [hci]⟩
  · exfalso
    have hi0 : i - 1 < (nearL r L).length := by omega
    obtain ⟨b, hb, k1, k2, k3⟩ := nearL_get r L 0 _ hL.ch (i - 1) (by omega) (by omega)
    have := (around r L _ hL.ch hL.pw c hc i g1 g2).2 b hb (by omega) k2
    rw [if_neg hci] at this
    subst this
    rw [Nat.sub_zero, List.getElem?_eq_getElem hi] at g3
    rw [Nat.sub_zero, List.getElem?_eq_getElem hi0] at k3
    have := q1 (i - 1) hi0 (by omega)
    rw [Option.some.inj k3, ← Option.some.inj g3, p1] at this
    cases this
theorem begun_l0 (i : Int) (l : List Int) (hl : l.length ≤ 40) (hm : i ∈ l) : ∀ (d n : Nat) (b : Bool), n + d = l.length → (b = true ↔ i ∈ l.take n) →
    Ev (fun k => dropperlaw07_WearDue.l0 k i l b (n : Int)) true := by
  intro d
  induction d with
  | zero =>
    intro n b hn hb
    obtain rfl : n = l.length := by omega
    rw [List.take_length] at hb
    refine Ev.step (fun k => by rw [dropperlaw07_WearDue.l0]) (ev_neg (by omega) (ev_pos (hb.2 hm) ?_))
    exact Ev.bind first_ev (Ev.now _)
  | succ d ih =>
    intro n b hn hb
    have hlt : n < l.length := by omega
    refine Ev.step (fun k => by rw [dropperlaw07_WearDue.l0]) (ev_pos (by omega) ?_)
    have ht : l.take (n + 1) = l.take n ++ [l[n]] := List.take_succ_eq_append_getElem hlt
    by_cases hbt : b = true
    · refine ev_pos hbt ?_
      rw [wrap_succ _ (by omega)]
      exact ih (n + 1) true (by omega) (by simp only [true_iff]; rw [ht]; exact List.mem_append_left _ (hb.1 hbt))
    · refine ev_neg hbt (ev_pos (by omega) ?_)
      rw [wrap_succ _ (by omega), rd_eq l n hlt]
      refine ih (n + 1) _ (by omega) ?_
      have hnb : ¬ i ∈ l.take n := fun h => hbt (hb.2 h)
      rw [ht]
      simp only [List.mem_append, hnb, List.mem_singleton, false_or, beq_iff_eq]
      exact eq_comm
theorem lim_in (u : Int) (h : (Lit.int .u16 u).wf = true) : 0 ≤ Int.tmod (wrap64 u) 10001 ∧ Int.tmod (wrap64 u) 10001 ≤ 10000 := by
  have h0 : 0 ≤ u ∧ u ≤ 65535 := by
    simpa [Lit.wf, IntKind.min, IntKind.max, IntKind.signed, IntKind.bits] using h
  rw [wrap_id (by omega) (by omega), Int.tmod_eq_emod_of_nonneg (by omega)]
  omega
theorem WearDue : dropperlaw07_WearDue.Pure := by
  intro r u v hm hu hv
  refine Ev.rounds (r := true) (g := fun k => dropperlaw07_WearDue.f k r u v) ?_
  unfold dropperlaw07_WearDue.f
  have h1 := lim_in u hu
  have h2 := lim_in v hv
  generalize Int.tmod (wrap64 u) 10001 = x at *
  generalize Int.tmod (wrap64 v) 10001 = y at *
  have h3 : 0 ≤ mn x y ∧ mn x y ≤ mx x y ∧ mx x y ≤ 10000 := by unfold mn mx; omega
  generalize mn x y = a at *
  generalize mx x y = b at *
  by_cases hk : ok r = true
  · have hl : r.length ≤ 4000000000000000000 := by have := (ok_iff r).1 hk; omega
    obtain ⟨L, hL⟩ := row r hk
    have n2 := chain_le r L 0 _ hL.ch
    have h' := (ok_iff r).1 hk
    refine Ev.bind (refValid r hl) (ev_pos hk ?_)
    refine Ev.bind (Due_ok r hk L hL a) (Ev.bind (Due_ok r hk L hL b) (Ev.bind (Blocks_ok r hk L hL) ?_))
    unfold dueOf
    rw [if_pos (show 0 ≤ a ∧ a ≤ 10000 by omega), if_pos (show 0 ≤ b ∧ b ≤ 10000 by omega)]
    by_cases hb : dueAt (nearL r L) b < 0
    · rw [if_pos hb]
      by_cases ha : dueAt (nearL r L) a < 0
      · rw [if_pos ha]
        refine ev_neg (by decide) (ev_pos rfl (ev_neg (by decide) (ev_pos rfl (ev_pos rfl ?_))))
        exact Ev.step (fun k => by rw [dropperlaw07_WearDue.j0]) (ev_neg (by simp) (ev_neg (by decide) (Ev.bind first_ev (Ev.now _))))
      · rw [if_neg ha]
        refine ev_pos rfl (ev_neg (by simp only []; decide) (ev_pos rfl (ev_pos rfl ?_)))
        refine Ev.step (fun k => by rw [dropperlaw07_WearDue.j0]) (ev_neg (by simp) (ev_pos rfl ?_))
        exact begun_l0 _ _ (by simp only [begins, List.length_map]; omega) (due_begins r hk L hL a ha) _ 0 false (Nat.zero_add _) (by simp)
    · have hab := due_mono r hk L hL a b h3.1 h3.2.1 h3.2.2 hb
      rw [if_neg hb, if_neg hab.1]
      refine ev_pos rfl (ev_pos rfl (ev_pos rfl ?_))
      rw [decide_eq_false hab.2]
      refine Ev.step (fun k => by rw [dropperlaw07_WearDue.j0]) (ev_neg (by simp) (ev_pos rfl ?_))
      exact begun_l0 _ _ (by simp only [begins, List.length_map]; omega) (due_begins r hk L hL a hab.1) _ 0 false (Nat.zero_add _) (by simp)
  · exact Ev.bind (refValid_big r hm.1) (ev_neg hk (Ev.bind first_ev (Ev.now _)))

end Go.Proofs.Ytpdcpekjafcohaa.Pure
