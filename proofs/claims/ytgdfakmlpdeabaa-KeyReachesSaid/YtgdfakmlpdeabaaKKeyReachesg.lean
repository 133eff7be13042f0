-- Written by wip/pack.py of this repo: texts of this claim, put together.
import Derived.DataReads
import Derived.OpenShut
import Derived.ChangeArms
import Derived.Test.YtgdfakmlpdeabaaRows
import Derived.WalkKit
import Derived.ProofKit
import Derived.ShutString
import Derived.ChangeOld
import Derived.Below
import Derived.SizedLaws
import Derived.Test.YtgdfakmlpdeabaaKKeyReachesf
/- What is reached: by any play, in no fewer moves; the way back; sums that are kept. -/
namespace Go.Proofs.Ytgdfakmlpdeabaa.Keys
set_option linter.unusedVariables false
set_option linter.unusedSimpArgs false
open Go.RowKit Go.Proofs.Ytgdfakmlpdeabaa.XKey Go.Proofs.YtgdfakmlpdeabaaW.PrintWords Go.Proofs.YtgdfakmlpdeabaaW.PrintLast Go.Proofs.YtgdfakmlpdeabaaW.PrintMore
theorem plays_app (ts : List S64) : ∀ (a b x : List Int), plays ts x (a ++ b) = (plays ts x a).bind fun y => plays ts y b
 | [], b, x => rfl
 | i :: a, b, x => by
  rw [List.cons_append, plays, plays, Option.bind_assoc]
  congr 1
  funext y
  exact plays_app ts a b y
theorem rd_get? {ts : List S64} {q : Nat} {u : S64} (h : ts[q]? = some u) : q < ts.length ∧ rd_T64 ts (q : Int) = u := by
 obtain ⟨h1, h2⟩ := List.getElem?_eq_some_iff.1 h
 exact ⟨h1, by rw [rd_S ts q h1, h2]⟩
theorem Inv.reach {n : Int} {ts : List S64} {x0 : List Int} {L : List (List Int)} {st : List S107} {D : Nat → Nat} (h : Inv n ts x0 L.length 0 L st D) : ∀ {ms l r : List Int} {k : Nat}, Names ts ms → L[k]? = some l → plays ts l ms = some r → ∃ j, L[j]? = some r ∧ D j ≤ D k + ms.length
 | [], l, r, k, _, hk, e => by rw [plays] at e; cases e; exact ⟨k, hk, Nat.le_refl _⟩
 | a :: ms, l, r, k, hN, hk, e => by
  rw [plays] at e
  obtain ⟨y, e1, e2⟩ := Option.bind_eq_some_iff.1 e
  have ha := hN a (List.mem_cons_self ..)
  obtain ⟨q, rfl⟩ := Int.eq_ofNat_of_zero_le ha.1
  have hq : q < ts.length := by omega
  rw [rd_S ts q hq] at e1
  obtain ⟨j, j1, j2, j3⟩ := h.clo k q l ts[q] y (.inl (List.getElem?_eq_some_iff.1 hk).1) hk (List.getElem?_eq_getElem hq) e1
  obtain ⟨i, i1, i2⟩ := h.reach (fun x hx => hN x (List.mem_cons_of_mem _ hx)) j2 e2
  refine ⟨i, i1, ?_⟩
  simp only [List.length_cons]
  omega
theorem Inv.dist {n : Int} {ts : List S64} {x0 : List Int} {i t : Nat} {L : List (List Int)} {st : List S107} {D : Nat → Nat} (h : Inv n ts x0 i t L st D) : ∀ j, j < L.length → D j ≤ j := by
 intro j
 induction j using Nat.strongRecOn with
 | ind j ih =>
  intro hj
  by_cases h0 : j = 0
  ·
   subst h0; rw [h.d0]; exact Nat.le_refl _
  ·
   obtain ⟨p, q, a, b, c, _⟩ := h.par j (by omega) hj
   have := ih p a (by omega)
   omega
theorem Inv.back {n : Int} {ts : List S64} {x0 : List Int} {i t : Nat} {L : List (List Int)} {st : List S107} {D : Nat → Nat} (h : Inv n ts x0 i t L st D) : ∀ j, j < L.length → ∀ (m : Nat) (out : List Int), j < m → out.length + j < 1000000 →
  ∃ path, key_play.back st m (j : Int) out = some (out ++ path) ∧ path.length = D j ∧ Names ts path ∧ plays ts x0 path.reverse = L[j]? := by
 intro j
 induction j using Nat.strongRecOn with
 | ind j ih =>
  intro hj m out hm ho
  obtain ⟨m, rfl⟩ : ∃ k, m = k + 1 := ⟨m - 1, by omega⟩
  have hs : j < st.length := by rw [h.len]; exact hj
  rw [key_play.back, dif_pos ⟨by omega, by simpa using hs⟩]
  simp only [Int.toNat_natCast]
  by_cases h0 : j = 0
  ·
   subst h0
   have e0 : st[0] = ⟨-1, -1⟩ := by have := h.st0; rw [List.getElem?_eq_getElem hs] at this; exact Option.some.inj this
   rw [e0, if_neg (by decide)]
   exact ⟨[], by simp, (by rw [h.d0]; rfl), (fun x hx => by cases hx), (by rw [h.hd]; rfl)⟩
  ·
   obtain ⟨p, q, a, b, c, l, u, y, e1, e2, e3, e4⟩ := h.par j (by omega) hj
   have es : st[j] = ⟨(p : Int), (q : Int)⟩ := by rw [List.getElem?_eq_getElem hs] at b; exact Option.some.inj b
   obtain ⟨path, p1, p2, p3, p4⟩ := ih p a (by omega) m (out ++ [(q : Int)]) (by omega) (by simp; omega)
   rw [es]
   simp only
   rw [if_pos (by omega), if_pos (by omega), p1]
   obtain ⟨q1, q2⟩ := rd_get? e2
   refine ⟨(q : Int) :: path, by simp, by simp [p2, c], ?_, ?_⟩
   ·
    intro x hx
    rcases List.mem_cons.1 hx with rfl | hx
    ·
     omega
    ·
     exact p3 x hx
   ·
    rw [List.reverse_cons, plays_app, p4, e1, e3]
    show ((mv l _ _).bind fun y => plays ts y []) = some y
    rw [q2, e4]; rfl
/-! ### sums -/
def sdot : List Int → List Int → Int
 | x :: xs, y :: ys => x * y + sdot xs ys
 | _, _ => 0
theorem mul_in {x y : Int} (h0 : -20000 ≤ x) (h1 : x ≤ 20000) (h2 : 0 ≤ y) (h3 : y ≤ 100) : -2000000 ≤ x * y ∧ x * y ≤ 2000000 := by
 have a := Int.mul_le_mul_of_nonneg_right h1 h2
 have b := Int.mul_le_mul_of_nonneg_right h0 h2
 omega
theorem dot_eq : ∀ {xs ys : List Int} {s : Int}, In (-20000) 20000 xs → In 0 100 ys → -9000000000000000000 ≤ s - 2000000 * (xs.length : Int) → s + 2000000 * (xs.length : Int) ≤ 9000000000000000000 → dot s xs ys = s + sdot xs ys
 | [], ys, s, _, _, _, _ => by simp [dot, sdot]
 | x :: xs, [], s, _, _, _, _ => by simp [dot, sdot]
 | x :: xs, y :: ys, s, hx, hy, h1, h2 => by
  have a := hx x (List.mem_cons_self ..)
  have b := hy y (List.mem_cons_self ..)
  have c := mul_in a.1 a.2 b.1 b.2
  simp only [List.length_cons] at h1 h2
  rw [dot, sdot, wrap_id (x := x * y) (by omega) (by omega), wrap_id (x := s + x * y) (by omega) (by omega)]
  rw [dot_eq (fun z hz => hx z (List.mem_cons_of_mem _ hz)) (fun z hz => hy z (List.mem_cons_of_mem _ hz)) (by omega) (by omega)]
  omega
theorem dot_six {n : Int} {w y : List Int} (hn : n ≤ 6) (hw : fitW n w = true) (hy : In 0 100 y) : dot 0 w y = sdot w y := by
 obtain ⟨a, b⟩ := (okL_iff _ _ _ _).1 hw
 rw [dot_eq b hy (by omega) (by omega)]; omega
theorem sdot_mv : ∀ {w xs ns gs r : List Int}, mv xs ns gs = some r → xs.length = ns.length → xs.length = gs.length → w.length = xs.length → sdot w r = sdot w xs - sdot w ns + sdot w gs
 | [], [], [], [], r, h, _, _, _ => by cases h; rfl
 | a :: w, x :: xs, n :: ns, g :: gs, r, h, h1, h2, h3 => by
  rw [mv] at h
  split at h
  ·
   cases h
  ·
   obtain ⟨q, e, rfl⟩ := Option.map_eq_some_iff.1 h
   have := sdot_mv (w := w) e (by simpa using h1) (by simpa using h2) (by simpa using h3)
   simp only [sdot]
   rw [this, Int.mul_add, Int.mul_sub]
   omega
theorem In.mono {lo hi hi' : Int} {l : List Int} (h : In lo hi l) (hh : hi ≤ hi') : In lo hi' l := fun x hx => ⟨(h x hx).1, Int.le_trans (h x hx).2 hh⟩
theorem dot_mv {n : Int} {ts : List S64} {w l r : List Int} {u : S64} (hn : n ≤ 6) (hw : fitW n w = true) (hh : holdsS w ts = true) (hu : u ∈ ts) (hok : okT n u = true) (hl : St n l) (e : mv l u.f0 u.f1 = some r) : dot 0 w r = dot 0 w l := by
 obtain ⟨⟨a, b⟩, c, d⟩ := (okT_iff n u).1 hok
 have hr := hl.mv hok e
 have h1 := hl.len
 have h2 := fitW_len hw
 have h3 := List.all_eq_true.1 hh u hu
 rw [decide_eq_true_eq, dot_six hn hw (b.mono (by decide)), dot_six hn hw (d.mono (by decide))] at h3
 rw [dot_six hn hw hr.rng, dot_six hn hw hl.rng, sdot_mv e (by omega) (by omega) (by omega)]
 omega
theorem Inv.sums {n : Int} {ts : List S64} {x0 : List Int} {i t : Nat} {L : List (List Int)} {st : List S107} {D : Nat → Nat} (h : Inv n ts x0 i t L st D) (hn : n ≤ 6) (hts : ∀ u ∈ ts, okT n u = true) {w : List Int} (hw : fitW n w = true) (hh : holdsS w ts = true) :
  ∀ (j : Nat) (l : List Int), L[j]? = some l → dot 0 w l = dot 0 w x0 := by
 intro j
 induction j using Nat.strongRecOn with
 | ind j ih =>
  intro y hy
  by_cases h0 : j = 0
  ·
   subst h0; rw [h.hd] at hy; cases hy; rfl
  ·
   obtain ⟨p, q, a, b, c, l, u, y', e1, e2, e3, e4⟩ := h.par j (by omega) (List.getElem?_eq_some_iff.1 hy).1
   rw [hy] at e3; cases e3
   have hu := List.mem_of_getElem? e2
   rw [dot_mv hn hw hh hu (hts u hu) (h.sts l (List.mem_of_getElem? e1)) e4]
   exact ih p a l e1
def cov : List Int → List Int → Bool
 | x :: xs, y :: ys => decide (y ≤ x) && cov xs ys
 | _, _ => true
theorem sdot_cov : ∀ {w xs ys : List Int}, (∀ x ∈ w, 0 ≤ x) → cov xs ys = true → xs.length = ys.length → sdot w ys ≤ sdot w xs
 | [], _, _, _, _, _ => by simp [sdot]
 | _ :: _, [], [], _, _, _ => by simp [sdot]
 | a :: w, x :: xs, y :: ys, hw, h, hl => by
  rw [cov, Bool.and_eq_true, decide_eq_true_eq] at h
  have h1 := sdot_cov (w := w) (fun z hz => hw z (List.mem_cons_of_mem _ hz)) h.2 (by simpa using hl)
  have h2 := Int.mul_le_mul_of_nonneg_left h.1 (hw a (List.mem_cons_self ..))
  simp only [sdot]
  omega
theorem cov_refl : ∀ x : List Int, cov x x = true
 | [] => rfl
 | a :: x => by rw [cov, cov_refl x]; simp
theorem Covers_ev (a b : List Int) (h : a.length = b.length) (hl : a.length ≤ 9223372036854775807) : Ev (fun k => dropperref06_Covers.f k a b) (cov a b) := by
 unfold dropperref06_Covers.f
 have H : ∀ (d i : Nat), i + d = a.length → Ev (fun k => dropperref06_Covers.l0 k a b (i : Int)) (cov (a.drop i) (b.drop i)) := by
  intro d
  induction d with
  | zero =>
   intro i hi
   rw [List.drop_eq_nil_of_le (by omega : a.length ≤ i)]
   refine Ev.step (fun k => by rw [dropperref06_Covers.l0]) (ev_neg (by omega) ?_)
   rw [cov]
   ·
    exact Ev.now _
   ·
    intro _ _ _ _ h; cases h
  | succ d ih =>
   intro i hi
   refine Ev.step (fun k => by rw [dropperref06_Covers.l0]) (ev_pos (by omega) (ev_pos (by omega) (ev_pos (by omega) ?_)))
   rw [List.drop_eq_getElem_cons (by omega : i < a.length), List.drop_eq_getElem_cons (by omega : i < b.length), cov, rd_at a i (by omega), rd_at b i (by omega), wrap_succ (l := a.length) i (by omega) hl]
   by_cases hc : a[i] < b[i]
   ·
    rw [decide_eq_false (by omega), Bool.false_and]; exact ev_pos hc (Ev.now _)
   ·
    rw [decide_eq_true (by omega), Bool.true_and]; exact ev_neg hc (ih (i + 1) (by omega))
 exact H a.length 0 (by omega)
theorem same_ev (a b : List Int) (hl : a.length ≤ 9223372036854775807) : Ev (fun k => dropperlaw06_SameInts.f k a b) (decide (a = b)) := by
 by_cases h : a = b
 ·
  subst h; rw [decide_eq_true rfl]; exact same_refl a hl
 rw [decide_eq_false h]
 unfold dropperlaw06_SameInts.f
 by_cases hn : (a.length : Int) = (b.length : Int)
 ·
  refine ev_pos hn ?_
  have H : ∀ (d i : Nat), i + d = a.length → a.drop i ≠ b.drop i → Ev (fun k => dropperlaw06_SameInts.l0 k a b (i : Int)) false := by
   intro d
   induction d with
   | zero =>
    intro i hi hne
    rw [List.drop_eq_nil_of_le (by omega : a.length ≤ i), List.drop_eq_nil_of_le (by omega : b.length ≤ i)] at hne
    exact absurd rfl hne
   | succ d ih =>
    intro i hi hne
    refine Ev.step (fun k => by rw [dropperlaw06_SameInts.l0]) (ev_pos (by omega) (ev_pos (by omega) (ev_pos (by omega) ?_)))
    rw [List.drop_eq_getElem_cons (by omega : i < a.length), List.drop_eq_getElem_cons (by omega : i < b.length)] at hne
    rw [rd_at a i (by omega), rd_at b i (by omega), wrap_succ (l := a.length) i (by omega) hl]
    by_cases hc : a[i] = b[i]
    ·
     refine ev_pos hc (ih (i + 1) (by omega) (fun e => hne ?_)); rw [hc, e]
    ·
     exact ev_neg hc (Ev.now _)
  exact H a.length 0 (by omega) h
 ·
  exact ev_neg hn (Ev.now _)
theorem among_ev (ls : List (List Int)) (x : List Int) (h1 : ls.length ≤ 9223372036854775807) (h2 : ∀ l ∈ ls, l.length ≤ 9223372036854775807) : Ev (fun k => droppertop_among.f k ls x) (decide (x ∈ ls)) := by
 unfold droppertop_among.f
 refine ev_loop (l := ls) h1 (F := fun k i => droppertop_among.l0 k ls x i) (fun r => decide (x ∈ r)) ?_ ?_
 ·
  refine Ev.step (fun k => by rw [droppertop_among.l0]) (ev_neg (by omega) ?_); exact Ev.now _
 ·
  intro i h hw ih
  refine Ev.step (fun k => by rw [droppertop_among.l0]) (ev_pos (by omega) (ev_pos (by omega) ?_))
  rw [rd_L ls i h, hw]
  refine ev_bind1 (same_ev _ _ (h2 _ (List.getElem_mem h))) ?_
  by_cases hc : ls[i] = x
  ·
   rw [decide_eq_true hc, decide_eq_true (by rw [hc]; exact List.mem_cons_self ..)]; exact ev_pos rfl (Ev.now _)
  ·
   rw [decide_eq_false hc, show decide (x ∈ ls[i] :: ls.drop (i + 1)) = decide (x ∈ ls.drop (i + 1)) by
    refine decide_eq_decide.2 ?_
    rw [List.mem_cons]
    exact ⟨fun h => h.elim (fun e => absurd e.symm hc) id, .inr⟩]
   exact ev_neg (by decide) ih
end Go.Proofs.Ytgdfakmlpdeabaa.Keys

/- What the program tells of what is reached. -/
namespace Go.Proofs.Ytgdfakmlpdeabaa.Keys
set_option linter.unusedVariables false
set_option linter.unusedSimpArgs false
open Go.RowKit Go.Proofs.Ytgdfakmlpdeabaa.XKey Go.Proofs.YtgdfakmlpdeabaaW.PrintWords Go.Proofs.YtgdfakmlpdeabaaW.PrintLast Go.Proofs.YtgdfakmlpdeabaaW.PrintMore
abbrev Found := Option (List (List Int) × List S107)
def found (ts : List S64) (x0 : List Int) : Found := (bfs ts 400 0 [x0] [⟨-1, -1⟩]).getD none
theorem found_eq (ts : List S64) (x0 : List Int) : bfs ts 400 0 [x0] [⟨-1, -1⟩] = some (found ts x0) := by
 obtain ⟨o, h⟩ := bfs_some (ts := ts) (m := 400) (i := 0) (L := [x0]) (st := [⟨-1, -1⟩]) (by simp) (by simp) (by simp)
 rw [found, h]; rfl
theorem found_inv {n : Int} {ts : List S64} {x0 : List Int} (hts : ∀ u ∈ ts, okT n u = true) (h0 : St n x0) {L : List (List Int)} {st : List S107} (h : found ts x0 = some (L, st)) : ∃ D, Inv n ts x0 L.length 0 L st D := by
 have e := found_eq ts x0
 rw [h] at e
 exact Inv.bfs hts (Inv.start h0) (by simp) e
theorem bfs_len {ts : List S64} : ∀ {m i : Nat} {L L' : List (List Int)} {st st' : List S107}, L.length ≤ 300 → bfs ts m i L st = some (some (L', st')) → L'.length ≤ 300
 | 0, i, L, L', st, st', h1, e => by rw [bfs] at e; cases e
 | m + 1, i, L, L', st, st', h1, e => by
  rw [bfs] at e
  split at e
  ·
   split at e
   ·
    cases e
   ·
    rename_i hin
    exact bfs_len (inner_len hin h1).1 e
  ·
   cases e; exact h1
theorem found_len {ts : List S64} {x0 : List Int} {L : List (List Int)} {st : List S107} (h : found ts x0 = some (L, st)) : L.length ≤ 300 := by
 have e := found_eq ts x0
 rw [h] at e
 exact bfs_len (by simp) e
theorem spread_val {n : Int} {ts : List S64} {x0 : List Int} (hn : n ≤ 6) (hts : ∀ u ∈ ts, okT n u = true) (h0 : St n x0) :
  key_spread.f n ts (rd x0 0) (rd x0 1) (rd x0 2) (rd x0 3) (rd x0 4) (rd x0 5) = some (match found ts x0 with | none => ([], [], false) | some p => (p.1.map pk, p.2, true)) := by
 unfold key_spread.f
 rw [if_pos (wf_pk hn h0)]
 have e := bfs_eq (m := 400) (i := 0) (L := [x0]) (st := [⟨-1, -1⟩]) hn hts (fun x hx => by rw [List.mem_singleton.1 hx]; exact h0)
 rw [found_eq] at e
 exact e
def srt (L : List (List Int)) : List S70 := (L.map pk).mergeSort key_reach.le
theorem reach_val {n : Int} {ts : List S64} {x0 : List Int} (h : asks n ts [x0] = 0) : key_reach.f n ts x0 = some (match found ts x0 with | none => ([], 4) | some p => (srt p.1, 0)) := by
 obtain ⟨hb, hls⟩ := asks_zero h
 obtain ⟨⟨b1, b2⟩, b3, b4⟩ := (okB_iff n ts).1 hb
 have h0 := St.of (hls x0 (by simp))
 unfold key_reach.f
 rw [open_val, Option.bind_some, if_pos h, show key_keysOf.f x0 = some (tup6 x0) from rfl, Option.bind_some]
 simp only [tup6]
 rw [spread_val b2 b4 h0]
 cases found ts x0 with
 | none => rfl
 | some p => rfl
def lst (n : Int) (l : List S70) : List (List Int) := l.map fun x => (key_spread.toL x).take n.toNat
theorem rd_K (xs : List S70) (i : Nat) (h : i < xs.length) : rd_T70 xs (i : Int) = xs[i] := by simp [rd_T70, List.getD_eq_getElem?_getD, h]
theorem lists_ev {n : Int} (h0 : 0 ≤ n) (h6 : n ≤ 6) (l : List S70) (hl : l.length ≤ 300) : Ev (fun k => key_lists.f k l n) (lst n l) := by
 have H : ∀ (d i : Nat) (acc : List (List Int)), i + d = l.length → acc.length ≤ i → Ev (fun k => key_lists.l0 k n acc l (l.length : Int) (i : Int)) (acc ++ lst n (l.drop i)) := by
  intro d
  induction d with
  | zero =>
   intro i acc hi ha
   rw [List.drop_eq_nil_of_le (by omega : l.length ≤ i), lst, List.map_nil, List.append_nil]
   refine Ev.step (fun k => by rw [key_lists.l0]) (ev_neg (by omega) ?_); exact Ev.now _
  | succ d ih =>
   intro i acc hi ha
   have hlt : i < l.length := by omega
   refine Ev.step (fun k => by rw [key_lists.l0]) (ev_pos (by omega) (ev_pos (by omega) (ev_pos (by omega) ?_)))
   rw [rd_K l i hlt, wrap_succ (l := l.length) i hlt (by omega)]
   refine ev_val (show key_keys_list.f _ _ _ _ _ _ n = some ((key_spread.toL l[i]).take n.toNat) from if_pos ⟨h0, h6⟩) (ev_pos (by omega) ?_)
   have := ih (i + 1) (acc ++ [(key_spread.toL l[i]).take n.toNat]) (by omega) (by simp; omega)
   rw [List.drop_eq_getElem_cons hlt]
   rw [List.append_assoc] at this
   exact this
 have := H l.length 0 [] (by omega) (by simp)
 unfold key_lists.f
 simpa using this
theorem lst_pk {n : Int} (hn : n ≤ 6) : ∀ {L : List (List Int)}, (∀ x ∈ L, St n x) → lst n (L.map pk) = L
 | [], _ => rfl
 | x :: L, h => by
  rw [List.map_cons, lst, List.map_cons, take_pk hn (h x (List.mem_cons_self ..))]
  have := lst_pk hn (L := L) (fun y hy => h y (List.mem_cons_of_mem _ hy))
  rw [lst] at this; rw [this]
theorem lst_perm {n : Int} (hn : n ≤ 6) {L : List (List Int)} (h : ∀ x ∈ L, St n x) : (lst n (srt L)).Perm L := by
 have h1 : (srt L).Perm (L.map pk) := List.mergeSort_perm _ _
 have h2 := h1.map (fun x => (key_spread.toL x).take n.toNat)
 have h3 := lst_pk hn h
 rw [lst] at h3
 rw [h3] at h2
 exact h2
theorem srt_len (L : List (List Int)) : (srt L).length = L.length := by rw [srt, List.length_mergeSort, List.length_map]
theorem srt_mem {L : List (List Int)} {x : S70} : x ∈ srt L ↔ ∃ l ∈ L, pk l = x := by
 rw [srt, List.mem_mergeSort, List.mem_map]
theorem Reach_ev {n : Int} {ts : List S64} {x0 : List Int} (h : asks n ts [x0] = 0) : Ev (fun k => key_Reach.f k n ts x0) (match found ts x0 with | none => ([], 4) | some p => (lst n (srt p.1), 0)) := by
 obtain ⟨hb, hls⟩ := asks_zero h
 obtain ⟨⟨b1, b2⟩, b3, b4⟩ := (okB_iff n ts).1 hb
 unfold key_Reach.f
 refine ev_val (reach_val h) ?_
 cases hf : found ts x0 with
 | none => exact ev_bind1 (lists_ev (by omega) b2 [] (by simp)) (Ev.now _)
 | some p => exact ev_bind1 (lists_ev (by omega) b2 (srt p.1) (by rw [srt_len]; exact found_len hf)) (Ev.now _)
def stk (ts : List S64) (n : Int) (x : S70) : Bool := (cans ((key_spread.toL x).take n.toNat) 0 ts).isEmpty
theorem keep_ev {n : Int} {ts : List S64} (hn : n ≤ 6) (h8 : ts.length ≤ 8) (hts : ∀ u ∈ ts, okT n u = true) : ∀ {l : List S70}, (∀ x ∈ l, ∃ y, St n y ∧ pk y = x) → Ev (fun k => key_Stuck.keep k n ts l) (l.filter (stk ts n))
 | [], _ => Ev.congr (f := fun _ => some []) (fun k => by rw [key_Stuck.keep]) (Ev.now _)
 | x :: l, h => by
  obtain ⟨y, hy, rfl⟩ := h x (List.mem_cons_self ..)
  have ih := keep_ev hn h8 hts (l := l) (fun z hz => h z (List.mem_cons_of_mem _ hz))
  refine Ev.congr (fun k => by rw [key_Stuck.keep]) ?_
  refine ev_bind1 (kcan_ev hn h8 hts hy) (ev_bind1 ih ?_)
  have e : stk ts n (pk y) = (cans y 0 ts).isEmpty := by rw [stk, take_pk hn hy]
  rw [List.filter_cons, e]
  cases hc : cans y 0 ts with
  | nil => rw [if_neg (by simp), if_pos (by simp)]; exact Ev.now _
  | cons a b => rw [if_pos (by simp), if_neg (by simp)]; exact Ev.now _
theorem Stuck_ev {n : Int} {ts : List S64} {x0 : List Int} (h : asks n ts [x0] = 0) : Ev (fun k => key_Stuck.f k n ts x0) (match found ts x0 with | none => ([], 4) | some p => (lst n ((srt p.1).filter (stk ts n)), 0)) := by
 obtain ⟨hb, hls⟩ := asks_zero h
 obtain ⟨⟨b1, b2⟩, b3, b4⟩ := (okB_iff n ts).1 hb
 have h0 := St.of (hls x0 (by simp))
 unfold key_Stuck.f
 refine ev_val (reach_val h) ?_
 cases hf : found ts x0 with
 | none => exact ev_bind1 (keep_ev b2 b3 b4 (l := []) (fun x hx => by cases hx)) (ev_bind1 (lists_ev (by omega) b2 [] (by simp)) (Ev.now _))
 | some p =>
  obtain ⟨L, st⟩ := p
  obtain ⟨D, hD⟩ := found_inv b4 h0 hf
  refine ev_bind1 (keep_ev b2 b3 b4 (l := srt L) (fun x hx => ?_)) (ev_bind1 (lists_ev (by omega) b2 _ ?_) (Ev.now _))
  ·
   obtain ⟨l, hl, e⟩ := srt_mem.1 hx; exact ⟨l, hD.sts l hl, e⟩
  ·
   refine Nat.le_trans (List.length_filter_le _ _) ?_
   rw [srt_len]; exact found_len hf
theorem stuck_mem {n : Int} {ts : List S64} (hn : n ≤ 6) {L : List (List Int)} (h : ∀ x ∈ L, St n x) {y : List Int} (hy : y ∈ L) : y ∈ lst n ((srt L).filter (stk ts n)) ↔ (cans y 0 ts) = [] := by
 rw [lst, List.mem_map]
 constructor
 ·
  rintro ⟨x, hx, e⟩
  obtain ⟨h1, h2⟩ := List.mem_filter.1 hx
  rw [stk, e] at h2
  exact List.isEmpty_iff.1 h2
 ·
  intro e
  refine ⟨pk y, List.mem_filter.2 ⟨srt_mem.2 ⟨y, hy, rfl⟩, ?_⟩, take_pk hn (h y hy)⟩
  rw [stk, take_pk hn (h y hy), e]; rfl
/-! ### the greatest -/
def mxs (s x : List Int) : List Int := List.zipWith max s x
theorem mxs_cov : ∀ {s x : List Int}, s.length = x.length → cov (mxs s x) s = true ∧ cov (mxs s x) x = true
 | [], [], _ => ⟨rfl, rfl⟩
 | a :: s, b :: x, h => by
  have := mxs_cov (s := s) (x := x) (by simpa using h)
  rw [mxs] at this
  simp only [mxs, List.zipWith_cons_cons, cov, Bool.and_eq_true, decide_eq_true_eq]
  exact ⟨⟨by omega, this.1⟩, ⟨by omega, this.2⟩⟩
theorem cov_trans : ∀ {a b c : List Int}, a.length = b.length → b.length = c.length → cov a b = true → cov b c = true → cov a c = true
 | [], [], [], _, _, _, _ => rfl
 | x :: a, y :: b, z :: c, h1, h2, h3, h4 => by
  simp only [cov, Bool.and_eq_true, decide_eq_true_eq] at h3 h4 ⊢
  exact ⟨by omega, cov_trans (by simpa using h1) (by simpa using h2) h3.2 h4.2⟩
theorem fold_cov {m : Nat} : ∀ {l : List (List Int)} {s : List Int}, s.length = m → (∀ x ∈ l, x.length = m) → (l.foldl mxs s).length = m ∧ cov (l.foldl mxs s) s = true ∧ ∀ x ∈ l, cov (l.foldl mxs s) x = true
 | [], s, hs, _ => ⟨hs, cov_refl s, fun x hx => by cases hx⟩
 | y :: l, s, hs, hl => by
  have hy := hl y (List.mem_cons_self ..)
  have h1 : (mxs s y).length = m := by simp [mxs, hs, hy]
  obtain ⟨a, b, c⟩ := fold_cov (l := l) h1 (fun x hx => hl x (List.mem_cons_of_mem _ hx))
  obtain ⟨d, e⟩ := mxs_cov (s := s) (x := y) (by omega)
  rw [List.foldl_cons]
  refine ⟨a, cov_trans (by omega) (by omega) b d, fun x hx => ?_⟩
  rcases List.mem_cons.1 hx with rfl | hx
  ·
   exact cov_trans (by omega) (by omega) b e
  ·
   exact c x hx
theorem cov_take : ∀ {a b : List Int} (k : Nat), cov a b = true → cov (a.take k) (b.take k) = true
 | [], _, k, _ => by cases k <;> rfl
 | _ :: _, [], k, _ => by cases k <;> rfl
 | x :: a, y :: b, 0, _ => rfl
 | x :: a, y :: b, k + 1, h => by
  rw [cov, Bool.and_eq_true] at h
  rw [List.take_succ_cons, List.take_succ_cons, cov, Bool.and_eq_true]
  exact ⟨h.1, cov_take k h.2⟩
def grt (n : Int) (L : List (List Int)) : List Int := (((srt L).map key_spread.toL).foldl mxs [0, 0, 0, 0, 0, 0]).take n.toNat
theorem up_eq : key_Greatest.up = mxs := by
 funext s x
 first
  | rfl
  | (unfold key_Greatest.up mxs; congr 1; funext a b; unfold mx; rw [Int.max_def]; split <;> split <;> omega)
theorem Greatest_val {n : Int} {ts : List S64} {x0 : List Int} (h : asks n ts [x0] = 0) : key_Greatest.f n ts x0 = some (match found ts x0 with | none => ([], 4) | some p => (grt n p.1, 0)) := by
 obtain ⟨hb, hls⟩ := asks_zero h
 obtain ⟨⟨b1, b2⟩, b3, b4⟩ := (okB_iff n ts).1 hb
 unfold key_Greatest.f
 rw [reach_val h]
 cases found ts x0 with
 | none => rfl
 | some p =>
  simp only [Option.bind_some]
  rw [if_pos trivial, if_pos ⟨by omega, b2⟩, up_eq]
  rfl
theorem grt_cov {n : Int} (h0 : 0 ≤ n) (hn : n ≤ 6) {L : List (List Int)} (h : ∀ x ∈ L, St n x) : ((grt n L).length : Int) = n ∧ ∀ y ∈ L, cov (grt n L) y = true := by
 obtain ⟨a, b, c⟩ := fold_cov (m := 6) (l := (srt L).map key_spread.toL) (s := [0, 0, 0, 0, 0, 0]) rfl (fun x hx => by obtain ⟨z, _, rfl⟩ := List.mem_map.1 hx; rfl)
 refine ⟨by rw [grt, List.length_take, a]; omega, fun y hy => ?_⟩
 have := cov_take n.toNat (c (key_spread.toL (pk y)) (List.mem_map.2 ⟨pk y, srt_mem.2 ⟨y, hy, rfl⟩, rfl⟩))
 rw [take_pk hn (h y hy)] at this
 exact this
end Go.Proofs.Ytgdfakmlpdeabaa.Keys

/- The plays that are told. -/
namespace Go.Proofs.Ytgdfakmlpdeabaa.Keys
set_option linter.unusedVariables false
set_option linter.unusedSimpArgs false
open Go.RowKit Go.Proofs.Ytgdfakmlpdeabaa.XKey Go.Proofs.YtgdfakmlpdeabaaW.PrintWords Go.Proofs.YtgdfakmlpdeabaaW.PrintLast Go.Proofs.YtgdfakmlpdeabaaW.PrintMore
theorem asks_both {n : Int} {ts : List S64} {x y : List Int} (h1 : asks n ts [x] = 0) (h2 : okL n 0 100 y = true) : asks n ts [x, y] = 0 := by
 obtain ⟨hb, hls⟩ := asks_zero h1
 unfold asks
 rw [if_pos hb, if_pos (by simp [hls x (by simp), h2])]
theorem play_none {n : Int} {ts : List S64} {x0 o : List Int} (is : S70 → Bool) (h : asks n ts [x0, o] = 0) (hf : found ts x0 = none) : key_play.play is n ts x0 o = some ([], 4) := by
 obtain ⟨hb, hls⟩ := asks_zero h
 obtain ⟨⟨b1, b2⟩, b3, b4⟩ := (okB_iff n ts).1 hb
 have h0 := St.of (hls x0 (by simp))
 unfold key_play.play
 rw [open_val, Option.bind_some, if_pos h, show key_keysOf.f x0 = some (tup6 x0) from rfl, Option.bind_some]
 simp only [tup6]
 rw [spread_val b2 b4 h0, hf]
 rfl
theorem play_spec {n : Int} {ts : List S64} {x0 o : List Int} (is : S70 → Bool) (h : asks n ts [x0, o] = 0) {L : List (List Int)} {st : List S107} (hf : found ts x0 = some (L, st)) {D : Nat → Nat} (hD : Inv n ts x0 L.length 0 L st D) :
  ((∀ y ∈ L, is (pk y) = false) ∧ key_play.play is n ts x0 o = some ([], 5)) ∨
  ∃ (j : Nat) (path y : List Int), L[j]? = some y ∧ is (pk y) = true ∧ (∀ (i : Nat) (z : List Int), i < j → L[i]? = some z → is (pk z) = false) ∧ key_play.play is n ts x0 o = some (path, 0) ∧ path.length = D j ∧ Names ts path ∧ plays ts x0 path = some y := by
 obtain ⟨hb, hls⟩ := asks_zero h
 obtain ⟨⟨b1, b2⟩, b3, b4⟩ := (okB_iff n ts).1 hb
 have h0 := St.of (hls x0 (by simp))
 have hlen := found_len hf
 have hpl : key_play.play is n ts x0 o = (if Idx.idxFrom is (L.map pk) < 0 then some ([], 5) else (key_play.back st 400 (Idx.idxFrom is (L.map pk)) []).map fun o => (o.reverse, 0)) := by
  unfold key_play.play
  rw [open_val, Option.bind_some, if_pos h, show key_keysOf.f x0 = some (tup6 x0) from rfl, Option.bind_some]
  simp only [tup6]
  rw [spread_val b2 b4 h0, hf]
  rfl
 cases ha : (L.map pk).any is with
 | false =>
  left
  have hn : ∀ y ∈ L, is (pk y) = false := by
   intro y hy
   have := List.any_eq_false.1 ha (pk y) (List.mem_map.2 ⟨y, hy, rfl⟩)
   simpa using this
  refine ⟨hn, ?_⟩
  rw [hpl, Idx.idxFrom, ha]
  rfl
 | true =>
  right
  have hi : (L.map pk).findIdx is < (L.map pk).length := List.findIdx_lt_length_of_exists (by simpa using List.any_eq_true.1 ha)
  have hi' : (L.map pk).findIdx is < L.length := by simpa using hi
  have e : Idx.idxFrom is (L.map pk) = (((L.map pk).findIdx is : Nat) : Int) := by rw [Idx.idxFrom, ha]; rfl
  have hp := List.findIdx_getElem (w := hi)
  rw [List.getElem_map] at hp
  obtain ⟨path, p1, p2, p3, p4⟩ := hD.back ((L.map pk).findIdx is) hi' 400 [] (by omega) (by rw [List.length_nil]; omega)
  refine ⟨(L.map pk).findIdx is, path.reverse, L[(L.map pk).findIdx is], List.getElem?_eq_getElem hi', hp, ?_, ?_, by rw [List.length_reverse]; exact p2, fun a ha => p3 a (List.mem_reverse.1 ha), by rw [p4, List.getElem?_eq_getElem hi']⟩
  ·
   intro i z hij hz
   have hz' := List.not_of_lt_findIdx hij
   obtain ⟨h1, h2⟩ := List.getElem?_eq_some_iff.1 hz
   rw [List.getElem_map, h2] at hz'
   simpa using hz'
  ·
   rw [hpl, e, if_neg (by omega), p1]
   simp
theorem way_is {n : Int} (hn : n ≤ 6) {o y : List Int} (ho : St n o) (hy : St n y) : key_Way.is o (pk y) = decide (y = o) := by
 have h1 := ho.len
 have h2 := hy.len
 rw [key_Way.is, toL_pk]
 exact decide_eq_decide.2 ⟨fun e => six_inj (by omega) (by omega) e, fun e => by rw [e]⟩
theorem cov_app : ∀ {a b : List Int} (z : List Int), a.length = b.length → cov (a ++ z) (b ++ z) = cov a b
 | [], [], z, _ => cov_refl z
 | x :: a, y :: b, z, h => by
  rw [List.cons_append, List.cons_append, cov, cov, cov_app z (by simpa using h)]
theorem cover_is {n : Int} (hn : n ≤ 6) {o y : List Int} (ho : St n o) (hy : St n y) : key_Cover.is o (pk y) = cov y o := by
 have h1 := ho.len
 have h2 := hy.len
 rw [← cov_app (List.replicate (6 - y.length) 0) (show y.length = o.length by omega)]
 have e1 := six_app y (by omega)
 have e2 := six_app o (by omega)
 rw [show 6 - o.length = 6 - y.length by omega] at e2
 rw [← e1, ← e2]
 simp only [key_Cover.is, six, cov, pk, Bool.and_assoc, Bool.and_true]
 first | done | rfl
end Go.Proofs.Ytgdfakmlpdeabaa.Keys

/- The reference's states, breadth first, with the plays that lead there: the same as the program's, and the plays are those that the way back tells. -/
namespace Go.Proofs.Ytgdfakmlpdeabaa.Keys
set_option linter.unusedVariables false
set_option linter.unusedSimpArgs false
open Go.RowKit Go.Proofs.Ytgdfakmlpdeabaa.XKey Go.Proofs.YtgdfakmlpdeabaaW.PrintWords Go.Proofs.YtgdfakmlpdeabaaW.PrintLast Go.Proofs.YtgdfakmlpdeabaaW.PrintMore
def rinner (l p : List Int) : List S64 → Nat → List S87 → Option (List S87)
 | [], _, out => some out
 | u :: us, t, out => match mv l u.f0 u.f1 with
  | none => rinner l p us (t + 1) out
  | some r => if r ∈ out.map (·.f0) then rinner l p us (t + 1) out else if out.length = 300 then none else rinner l p us (t + 1) (out ++ [⟨r, p ++ [(t : Int)]⟩])
def rbfs (ts : List S64) : Nat → Nat → List S87 → Option (Option (List S87))
 | 0, _, _ => none
 | m + 1, i, out => if h : i < out.length then (match rinner out[i].f0 out[i].f1 ts 0 out with | none => some none | some out' => rbfs ts m (i + 1) out') else some (some out)
structure Tel (L : List (List Int)) (st : List S107) (out : List S87) : Prop where
 keys : out.map (·.f0) = L
 len : st.length = L.length
 st0 : st[0]? = some ⟨-1, -1⟩
 p0 : ∀ x : S87, out[0]? = some x → x.f1 = []
 le : L.length ≤ 300
 pl : ∀ (j : Nat) (y : S87), out[j]? = some y → y.f1.length ≤ j
 par : ∀ j, 0 < j → j < L.length → ∃ p q : Nat, p < j ∧ st[j]? = some ⟨(p : Int), (q : Int)⟩ ∧ ∃ x y : S87, out[p]? = some x ∧ out[j]? = some y ∧ y.f1 = x.f1 ++ [(q : Int)]
theorem Tel.len2 {L : List (List Int)} {st : List S107} {out : List S87} (h : Tel L st out) : out.length = L.length := by rw [← h.keys, List.length_map]
theorem Tel.add {L : List (List Int)} {st : List S107} {out : List S87} (h : Tel L st out) {i t : Nat} {x : S87} (hx : out[i]? = some x) (hl : ¬ out.length = 300) (r : List Int) :
  Tel (L ++ [r]) (st ++ [⟨(i : Int), (t : Int)⟩]) (out ++ [⟨r, x.f1 ++ [(t : Int)]⟩]) where
 keys := by rw [List.map_append, h.keys]; rfl
 len := by simp [h.len]
 st0 := by
  have := (List.getElem?_eq_some_iff.1 hx).1
  have e := h.len2
  rw [List.getElem?_append_left (by rw [h.len]; omega)]; exact h.st0
 p0 := fun y hy => by
  have := (List.getElem?_eq_some_iff.1 hx).1
  rw [List.getElem?_append_left (by omega)] at hy; exact h.p0 y hy
 le := by have := h.le; have := h.len2; simp; omega
 pl := fun j y hy => by
  have hi := (List.getElem?_eq_some_iff.1 hx).1
  by_cases hj : j < out.length
  ·
   rw [List.getElem?_append_left hj] at hy; exact h.pl j y hy
  ·
   have hj2 := (List.getElem?_eq_some_iff.1 hy).1
   simp at hj2
   have e : j = out.length := by omega
   subst e
   simp at hy
   subst hy
   have := h.pl i x hx
   simp; omega
 par := fun j h0 h1 => by
  have hi := (List.getElem?_eq_some_iff.1 hx).1
  have e := h.len2
  have h1' : j < L.length + 1 := by simpa using h1
  by_cases hj : j < L.length
  ·
   obtain ⟨p, q, a, b, x', y', e1, e2, e3⟩ := h.par j h0 hj
   refine ⟨p, q, a, ?_, x', y', ?_, ?_, e3⟩
   ·
    rw [List.getElem?_append_left (by rw [h.len]; omega)]; exact b
   ·
    rw [List.getElem?_append_left (by omega)]; exact e1
   ·
    rw [List.getElem?_append_left (by omega)]; exact e2
  ·
   have hjl : j = L.length := by omega
   refine ⟨i, t, by omega, ?_, x, ⟨r, x.f1 ++ [(t : Int)]⟩, ?_, ?_, rfl⟩
   ·
    rw [hjl, ← h.len]; simp
   ·
    rw [List.getElem?_append_left hi]; exact hx
   ·
    rw [hjl, ← e]; simp
theorem tel_inner {i : Nat} {x : S87} : ∀ {us : List S64} {t : Nat} {L : List (List Int)} {st : List S107} {out : List S87}, Tel L st out → out[i]? = some x →
  (inner x.f0 i us t L st = none ∧ rinner x.f0 x.f1 us t out = none) ∨ ∃ L' st' out', inner x.f0 i us t L st = some (L', st') ∧ rinner x.f0 x.f1 us t out = some out' ∧ Tel L' st' out' ∧ out'[i]? = some x
 | [], t, L, st, out, h, hx => .inr ⟨L, st, out, rfl, rfl, h, hx⟩
 | u :: us, t, L, st, out, h, hx => by
  rw [inner, rinner]
  cases hm : mv x.f0 u.f0 u.f1 with
  | none => exact tel_inner h hx
  | some r =>
   simp only
   rw [h.keys]
   by_cases hr : r ∈ L
   ·
    rw [if_pos hr, if_pos hr]; exact tel_inner h hx
   ·
    rw [if_neg hr, if_neg hr]
    have e := h.len2
    have hle := h.le
    by_cases h3 : 300 < L.length + 1
    ·
     rw [if_pos h3, if_pos (by omega)]; exact .inl ⟨rfl, rfl⟩
    ·
     rw [if_neg h3, if_neg (by omega)]
     refine tel_inner (h.add hx (by omega) r) ?_
     rw [List.getElem?_append_left (List.getElem?_eq_some_iff.1 hx).1]; exact hx
theorem tel_bfs {ts : List S64} : ∀ {m i : Nat} {L : List (List Int)} {st : List S107} {out : List S87}, Tel L st out →
  (bfs ts m i L st = none ∧ rbfs ts m i out = none) ∨ (bfs ts m i L st = some none ∧ rbfs ts m i out = some none) ∨ ∃ L' st' out', bfs ts m i L st = some (some (L', st')) ∧ rbfs ts m i out = some (some out') ∧ Tel L' st' out'
 | 0, i, L, st, out, h => .inl ⟨rfl, rfl⟩
 | m + 1, i, L, st, out, h => by
  rw [bfs, rbfs]
  have e := h.len2
  by_cases hi : i < L.length
  ·
   have hi' : i < out.length := by omega
   rw [dif_pos hi, dif_pos hi']
   have hL : L[i] = out[i].f0 := by
    have := h.keys
    simp [← this]
   rw [hL]
   rcases tel_inner (us := ts) (t := 0) h (List.getElem?_eq_getElem hi') with ⟨a, b⟩ | ⟨L', st', out', a, b, c, d⟩
   ·
    rw [a, b]; exact .inr (.inl ⟨rfl, rfl⟩)
   ·
    rw [a, b]; exact tel_bfs c
  ·
   rw [dif_neg hi, dif_neg (by omega)]
   exact .inr (.inr ⟨L, st, out, rfl, rfl, h⟩)
def rfound (ts : List S64) (x0 : List Int) : Option (List S87) := (rbfs ts 400 0 [⟨x0, []⟩]).getD none
theorem tel_start (x0 : List Int) : Tel [x0] [⟨-1, -1⟩] [⟨x0, []⟩] where
 keys := rfl
 len := rfl
 st0 := rfl
 p0 := fun x hx => by simp at hx; rw [← hx]
 le := by simp
 pl := fun j y hy => by
  have h1 := (List.getElem?_eq_some_iff.1 hy).1
  simp at h1; subst h1
  simp at hy; rw [← hy]; simp
 par := fun j h0 h1 => by simp at h1; omega
theorem rfound_cases (ts : List S64) (x0 : List Int) : (rbfs ts 400 0 [⟨x0, []⟩] = some (rfound ts x0)) ∧ ((found ts x0 = none ∧ rfound ts x0 = none) ∨ ∃ L st out, found ts x0 = some (L, st) ∧ rfound ts x0 = some out ∧ Tel L st out) := by
 have e := found_eq ts x0
 rcases tel_bfs (ts := ts) (m := 400) (i := 0) (tel_start x0) with ⟨a, _⟩ | ⟨a, b⟩ | ⟨L, st, out, a, b, c⟩
 ·
  rw [a] at e; cases e
 ·
  have e2 : rfound ts x0 = none := by rw [rfound, b]; rfl
  rw [a] at e
  exact ⟨by rw [b, e2], .inl ⟨(Option.some.inj e).symm, e2⟩⟩
 ·
  have e2 : rfound ts x0 = some out := by rw [rfound, b]; rfl
  rw [a] at e
  exact ⟨by rw [b, e2], .inr ⟨L, st, out, (Option.some.inj e).symm, e2, c⟩⟩
theorem Tel.back {L : List (List Int)} {st : List S107} {out : List S87} (h : Tel L st out) : ∀ (j : Nat) (y : S87), out[j]? = some y → ∀ (m : Nat) (o : List Int), j < m → o.length + j < 1000000 →
  key_play.back st m (j : Int) o = some (o ++ y.f1.reverse) := by
 intro j
 induction j using Nat.strongRecOn with
 | ind j ih =>
  intro y hy m o hm ho
  have hj := (List.getElem?_eq_some_iff.1 hy).1
  have e := h.len2
  obtain ⟨m, rfl⟩ : ∃ k, m = k + 1 := ⟨m - 1, by omega⟩
  have hs : j < st.length := by rw [h.len]; omega
  rw [key_play.back, dif_pos ⟨by omega, by simpa using hs⟩]
  simp only [Int.toNat_natCast]
  by_cases h0 : j = 0
  ·
   subst h0
   have e0 : st[0] = ⟨-1, -1⟩ := by have := h.st0; rw [List.getElem?_eq_getElem hs] at this; exact Option.some.inj this
   rw [e0, if_neg (by decide), h.p0 y hy]
   simp
  ·
   obtain ⟨p, q, a, b, x, y', e1, e2, e3⟩ := h.par j (by omega) (by omega)
   have es : st[j] = ⟨(p : Int), (q : Int)⟩ := by rw [List.getElem?_eq_getElem hs] at b; exact Option.some.inj b
   rw [hy] at e2
   obtain rfl := Option.some.inj e2
   have p1 := ih p a x e1 m (o ++ [(q : Int)]) (by omega) (by simp; omega)
   rw [es]
   simp only
   rw [if_pos (by omega), if_pos (by omega), p1, e3]
   simp
def askS (P : List Int → Bool) (f : Option (List S87)) : List Int × Int :=
 match f with
 | none => ([], 4)
 | some out => match out.find? (fun x => P x.f0) with
  | none => ([], 5)
  | some x => (x.f1, 0)
theorem play_val {n : Int} {ts : List S64} {x0 o : List Int} (is : S70 → Bool) (P : List Int → Bool) (h : asks n ts [x0, o] = 0) (hP : ∀ y, St n y → is (pk y) = P y) : key_play.play is n ts x0 o = some (askS P (rfound ts x0)) := by
 obtain ⟨hb, hls⟩ := asks_zero h
 obtain ⟨⟨b1, b2⟩, b3, b4⟩ := (okB_iff n ts).1 hb
 have h0 := St.of (hls x0 (by simp))
 rcases (rfound_cases ts x0).2 with ⟨a, b⟩ | ⟨L, st, out, hf, hr, hT⟩
 ·
  rw [play_none is h a, b]; rfl
 ·
  have hlen := found_len hf
  obtain ⟨D, hD⟩ := found_inv b4 h0 hf
  have hpl : key_play.play is n ts x0 o = (if Idx.idxFrom is (L.map pk) < 0 then some ([], 5) else (key_play.back st 400 (Idx.idxFrom is (L.map pk)) []).map fun o => (o.reverse, 0)) := by
   unfold key_play.play
   rw [open_val, Option.bind_some, if_pos h, show key_keysOf.f x0 = some (tup6 x0) from rfl, Option.bind_some]
   simp only [tup6]
   rw [spread_val b2 b4 h0, hf]
   rfl
  have e := hT.len2
  have hk : ∀ (j : Nat) (hj : j < L.length), out[j].f0 = L[j] := fun j hj => by
   have := hT.keys
   simp [← this]
  have his : ∀ (j : Nat) (hj : j < L.length), is (pk L[j]) = P out[j].f0 := fun j hj => by rw [hk j hj]; exact hP _ (hD.sts _ (List.getElem_mem hj))
  rw [hpl, hr]
  simp only [askS]
  cases hfi : out.find? (fun x => P x.f0) with
  | none =>
   have hn := List.find?_eq_none.1 hfi
   have ha : (L.map pk).any is = false := by
    rw [List.any_eq_false]
    intro z hz
    obtain ⟨y, hy, rfl⟩ := List.mem_map.1 hz
    obtain ⟨j, hj, rfl⟩ := List.getElem_of_mem hy
    rw [his j hj]
    exact hn _ (List.getElem_mem _)
   rw [Idx.idxFrom, ha]
   rfl
  | some x =>
   obtain ⟨hp, j, hj, hx, hmin⟩ := List.find?_eq_some_iff_getElem.1 hfi
   have hjL : j < L.length := by omega
   have ha : (L.map pk).any is = true := by
    rw [List.any_eq_true]
    refine ⟨pk L[j], List.mem_map.2 ⟨_, List.getElem_mem hjL, rfl⟩, ?_⟩
    rw [his j hjL, hx]; exact hp
   have hidx : (L.map pk).findIdx is = j := by
    rw [List.findIdx_eq (by simpa using hjL)]
    refine ⟨?_, fun i hi => ?_⟩
    ·
     rw [List.getElem_map, his j hjL, hx]; exact hp
    ·
     rw [List.getElem_map, his i (by omega)]
     have := hmin i hi
     simpa using this
   have e2 : Idx.idxFrom is (L.map pk) = ((j : Nat) : Int) := by rw [Idx.idxFrom, ha, ← hidx]; rfl
   rw [e2, if_neg (by omega), hT.back j x (by rw [List.getElem?_eq_getElem hj, hx]) 400 [] (by omega) (by rw [List.length_nil]; omega)]
   simp
/-! ### texts -/
def enc (x : Int) : ByteArray := Utf8.encode (65 + x)
def textS (l : List Int) : ByteArray := l.foldl (fun s x => s ++ enc x) ⟨#[]⟩
theorem enc_one {x : Int} (h0 : 0 ≤ x) (h1 : x < 63) : (enc x).data.toList = [UInt8.ofNat (65 + x).toNat] := by
 have hv : Utf8.valid (65 + x) = true := by
  unfold Utf8.valid
  rw [decide_eq_true (show (0 : Int) ≤ 65 + x by omega), decide_eq_true (show 65 + x < 0xD800 by omega)]
  rfl
 have hc : (65 + x).toNat < 128 := by omega
 unfold enc Utf8.encode
 simp only [hv, if_true, hc]
theorem enc_two {x : Int} (h0 : 63 ≤ x) (h1 : x ≤ 100) : (enc x).data.toList = [UInt8.ofNat 194, UInt8.ofNat (65 + x).toNat] := by
 have hv : Utf8.valid (65 + x) = true := by
  unfold Utf8.valid
  rw [decide_eq_true (show (0 : Int) ≤ 65 + x by omega), decide_eq_true (show 65 + x < 0xD800 by omega)]
  rfl
 have hc : ¬ (65 + x).toNat < 128 := by omega
 have hc2 : (65 + x).toNat < 2048 := by omega
 have e1 : 192 + (65 + x).toNat / 64 = 194 := by omega
 have e2 : 128 + (65 + x).toNat % 64 = (65 + x).toNat := by omega
 unfold enc Utf8.encode
 simp only [hv, if_true, hc, hc2, if_false, e1, e2]
theorem enc_size {x : Int} (h0 : 0 ≤ x) (h1 : x ≤ 100) : (enc x).size ≤ 2 := by
 have e : (enc x).size = (enc x).data.toList.length := rfl
 rw [e]
 by_cases h : x < 63
 ·
  rw [enc_one h0 h]; simp
 ·
  rw [enc_two (by omega) h1]; simp
def bytesL (l : List Int) : List UInt8 := l.flatMap fun x => (enc x).data.toList
theorem fold_bytes : ∀ (l : List Int) (s : ByteArray), (l.foldl (fun s x => s ++ enc x) s).data.toList = s.data.toList ++ bytesL l
 | [], s => by simp [bytesL]
 | x :: l, s => by
  rw [List.foldl_cons, fold_bytes l]
  simp [bytesL, ByteArray.data_append]
theorem of_byte {a b : Nat} (ha : a < 256) (hb : b < 256) (h : UInt8.ofNat a = UInt8.ofNat b) : a = b := by
 have := congrArg UInt8.toNat h
 simp at this
 omega
theorem bytes_inj : ∀ {a b : List Int}, In 0 100 a → In 0 100 b → bytesL a = bytesL b → a = b
 | [], [], _, _, _ => rfl
 | [], y :: b, _, hb, h => by
  have hy := hb y (by simp)
  simp only [bytesL, List.flatMap_nil, List.flatMap_cons] at h
  by_cases h3 : y < 63
  ·
   rw [enc_one hy.1 h3] at h; simp at h
  ·
   rw [enc_two (by omega) hy.2] at h; simp at h
 | x :: a, [], ha, _, h => by
  have hx := ha x (by simp)
  simp only [bytesL, List.flatMap_nil, List.flatMap_cons] at h
  by_cases h3 : x < 63
  ·
   rw [enc_one hx.1 h3] at h; simp at h
  ·
   rw [enc_two (by omega) hx.2] at h; simp at h
 | x :: a, y :: b, ha, hb, h => by
  have hx := ha x (by simp)
  have hy := hb y (by simp)
  have ha' : In 0 100 a := fun z hz => ha z (List.mem_cons_of_mem _ hz)
  have hb' : In 0 100 b := fun z hz => hb z (List.mem_cons_of_mem _ hz)
  simp only [bytesL, List.flatMap_cons] at h
  by_cases h1 : x < 63
  ·
   rw [enc_one hx.1 h1] at h
   by_cases h2 : y < 63
   ·
    rw [enc_one hy.1 h2] at h
    simp only [List.cons_append, List.nil_append, List.cons.injEq] at h
    have := of_byte (by omega) (by omega) h.1
    rw [show x = y by omega, bytes_inj ha' hb' h.2]
   ·
    rw [enc_two (by omega) hy.2] at h
    simp only [List.cons_append, List.nil_append, List.cons.injEq] at h
    have := of_byte (by omega) (by omega) h.1
    omega
  ·
   rw [enc_two (by omega) hx.2] at h
   by_cases h2 : y < 63
   ·
    rw [enc_one hy.1 h2] at h
    simp only [List.cons_append, List.nil_append, List.cons.injEq] at h
    have := of_byte (by omega) (by omega) h.1
    omega
   ·
    rw [enc_two (by omega) hy.2] at h
    simp only [List.cons_append, List.nil_append, List.cons.injEq] at h
    have := of_byte (by omega) (by omega) h.2.1
    rw [show x = y by omega, bytes_inj ha' hb' h.2.2]
theorem textS_inj {a b : List Int} (ha : In 0 100 a) (hb : In 0 100 b) (h : textS a = textS b) : a = b := by
 have h1 := congrArg (fun z => z.data.toList) h
 simp only [textS, fold_bytes] at h1
 exact bytes_inj ha hb (by simpa using h1)
theorem text_ev (l : List Int) (hr : In 0 100 l) (hl : l.length ≤ 6) : Ev (fun k => dropperref06_text.f k l) (textS l) ∧ (textS l).size ≤ 10000 := by
 have H : ∀ (m i : Nat) (s : ByteArray), i + m = l.length → s.size ≤ 2 * i → Ev (fun k => dropperref06_text.l0 k l s (i : Int)) ((l.drop i).foldl (fun s x => s ++ enc x) s) ∧ ((l.drop i).foldl (fun s x => s ++ enc x) s).size ≤ 2 * l.length := by
  intro m
  induction m with
  | zero =>
   intro i s hi hs
   rw [List.drop_eq_nil_of_le (by omega), List.foldl_nil]
   exact ⟨Ev.step (fun k => by rw [dropperref06_text.l0]) (ev_neg (by omega) (Ev.now _)), by omega⟩
  | succ m ih =>
   intro i s hi hs
   have hil : i < l.length := by omega
   have hx := hr l[i] (List.getElem_mem hil)
   have e1 := enc_size hx.1 hx.2
   have e2 : Utf8.encode (wrap32 (wrap64 (65 + rd l (i : Int)))) = enc l[i] := by
    rw [rd_at l i hil, wrap_id (by omega) (by omega)]
    have : wrap32 (65 + l[i]) = 65 + l[i] := by unfold wrap32; omega
    rw [this]; rfl
   rw [List.drop_eq_getElem_cons hil, List.foldl_cons]
   have hs2 : (s ++ enc l[i]).size ≤ 2 * (i + 1) := by rw [ByteArray.size_append]; omega
   obtain ⟨a, b⟩ := ih (i + 1) (s ++ enc l[i]) (by omega) hs2
   refine ⟨Ev.step (fun k => by rw [dropperref06_text.l0]) (ev_pos (by omega) (ev_pos (by omega) ?_)), b⟩
   rw [e2]
   refine ev_pos (by omega) ?_
   rw [wrap_succ i hil (by omega)]
   exact a
 obtain ⟨a, b⟩ := H l.length 0 ⟨#[]⟩ (by omega) (by simp [ByteArray.size])
 refine ⟨?_, ?_⟩
 ·
  unfold dropperref06_text.f
  exact a
 ·
  have : textS l = (l.drop 0).foldl (fun s x => s ++ enc x) ⟨#[]⟩ := rfl
  rw [this]; omega
/-! ### what the reference's found computes -/
def qOf (out : List S87) : List ByteArray := (out.map fun x => textS x.f0).reverse
theorem qOf_add (out : List S87) (x : S87) : qOf (out ++ [x]) = textS x.f0 :: qOf out := by simp [qOf]
theorem inT_q {n : Int} {out : List S87} (hs : ∀ x ∈ out, St n x.f0) {r : List Int} (hr : St n r) : inT (textS r) (qOf out) = decide (r ∈ out.map (·.f0)) := by
 rw [Bool.eq_iff_iff, inT_iff, decide_eq_true_eq, qOf, List.mem_reverse, List.mem_map, List.mem_map]
 constructor
 ·
  rintro ⟨x, hx, e⟩
  exact ⟨x, hx, textS_inj (hs x hx).rng hr.rng e⟩
 ·
  rintro ⟨x, hx, e⟩
  exact ⟨x, hx, by rw [e]⟩
theorem rd_F (out : List S87) (i : Nat) (h : i < out.length) : rd_T87 out (i : Int) = out[i] := by simp [rd_T87, List.getD_eq_getElem?_getD, h]
theorem l1_ev {n : Int} {ts : List S64} (hn : n ≤ 6) (h8 : ts.length ≤ 8) (hts : ∀ u ∈ ts, okT n u = true) {i : Nat} {x : S87} {R : List S87 × Bool} : ∀ (us : List S64) (t : Nat) (out : List S87),
  ts.drop t = us → t ≤ ts.length → out[i]? = some x → (∀ y ∈ out, St n y.f0) → out.length ≤ 300 → x.f1.length ≤ 300 →
  (match rinner x.f0 x.f1 us t out with | none => R = ([], false) | some out' => Ev (fun k => dropperref06_found.l0 k out' (qOf out') ((i + 1 : Nat) : Int) n ts) R) →
  Ev (fun k => dropperref06_found.l1 k out (qOf out) (i : Int) (t : Int) n ts) R
 | [], t, out, hd, ht, hx, hs, hl, hp, hR => by
  have e : t = ts.length := by
   have : ts.length ≤ t := by simpa using List.drop_eq_nil_iff.1 hd
   omega
  have hi := (List.getElem?_eq_some_iff.1 hx).1
  refine Ev.step (fun k => by rw [dropperref06_found.l1]) (ev_neg (by omega) ?_)
  rw [wrap_succ i hi (by omega)]
  exact hR
 | u :: us, t, out, hd, ht, hx, hs, hl, hp, hR => by
  have hi := (List.getElem?_eq_some_iff.1 hx).1
  have hlt : t < ts.length := by
   by_cases hh : t < ts.length
   ·
    exact hh
   ·
    rw [List.drop_eq_nil_of_le (by omega)] at hd; cases hd
  rw [List.drop_eq_getElem_cons hlt] at hd
  injection hd with hd1 hd2
  have hok := hts u (by rw [← hd1]; exact List.getElem_mem hlt)
  have hxo : out[i] = x := (List.getElem?_eq_some_iff.1 hx).2
  have hxs : St n x.f0 := hs x (List.mem_of_getElem? hx)
  have ih := l1_ev hn h8 hts (i := i) (x := x) (R := R) us (t + 1)
  have hw : wrap64 ((t : Int) + 1) = ((t + 1 : Nat) : Int) := wrap_succ t hlt (by omega)
  refine Ev.step (fun k => by rw [dropperref06_found.l1]) (ev_pos (by omega) (ev_pos (by omega) (ev_pos (by omega) (ev_pos (by omega) ?_))))
  rw [rd_S ts t hlt, rd_F out i hi, hd1, hxo]
  refine ev_bind1 (after_st hn hxs hok) ?_
  rw [rinner] at hR
  cases hm : mv x.f0 u.f0 u.f1 with
  | none =>
   rw [hm] at hR
   refine ev_neg (by simp) (Ev.step (fun k => by rw [dropperref06_found.j2]) (ev_pos rfl ?_))
   rw [hw]
   exact ih out hd2 hlt hx hs hl hp hR
  | some r =>
   rw [hm] at hR
   simp only at hR ⊢
   have hr := hxs.mv hok hm
   have hrl := hr.len
   obtain ⟨t1, t2⟩ := text_ev r hr.rng (by omega)
   refine ev_pos trivial (ev_bind1 t1 (ev_pos t2 ?_))
   rw [inT_q hs hr]
   by_cases hin : r ∈ out.map (·.f0)
   ·
    rw [if_pos hin] at hR
    rw [decide_eq_true hin]
    refine Ev.step (fun k => by rw [dropperref06_found.j2]) (ev_pos rfl ?_)
    rw [hw]
    exact ih out hd2 hlt hx hs hl hp hR
   ·
    rw [if_neg hin] at hR
    rw [decide_eq_false hin]
    refine Ev.step (fun k => by rw [dropperref06_found.j2]) (ev_neg (by decide) ?_)
    by_cases h3 : out.length = 300
    ·
     rw [if_pos h3] at hR
     rw [hR]
     exact ev_pos (by omega) (Ev.now _)
    ·
     rw [if_neg h3] at hR
     have hql : (qOf out).length = out.length := by simp [qOf]
     refine ev_neg (by omega) (ev_bind1 t1 (ev_pos ⟨t2, by omega⟩ (ev_some (ev_pos (by omega) (ev_pos (by omega) ?_)))))
     rw [rd_F out i hi, hxo]
     refine ev_pos (by simp; omega) (ev_some (ev_pos (by simp; omega) (ev_pos (by omega) ?_)))
     rw [hw, List.nil_append, show textS r :: qOf out = qOf (out ++ [⟨r, x.f1 ++ [(t : Int)]⟩]) from (qOf_add out ⟨r, x.f1 ++ [(t : Int)]⟩).symm]
     refine ih _ hd2 hlt (by rw [List.getElem?_append_left hi]; exact hx) (fun y hy => ?_) (by simp; omega) hp hR
     rcases List.mem_append.1 hy with hy | hy
     ·
      exact hs y hy
     ·
      rw [List.mem_singleton.1 hy]; exact hr
theorem rinner_st {n : Int} {l p : List Int} (h : St n l) : ∀ {us : List S64} {t : Nat} {out out' : List S87}, (∀ u ∈ us, okT n u = true) → (∀ x ∈ out, St n x.f0) → rinner l p us t out = some out' → ∀ x ∈ out', St n x.f0
 | [], t, out, out', _, hL, e => by rw [rinner] at e; cases e; exact hL
 | u :: us, t, out, out', hu, hL, e => by
  have hu' := fun x hx => hu x (List.mem_cons_of_mem _ hx)
  rw [rinner] at e
  split at e
  ·
   exact rinner_st h hu' hL e
  ·
   rename_i r hr
   split at e
   ·
    exact rinner_st h hu' hL e
   ·
    split at e
    ·
     cases e
    ·
     refine rinner_st h hu' (fun x hx => ?_) e
     rcases List.mem_append.1 hx with hx | hx
     ·
      exact hL x hx
     ·
      rw [List.mem_singleton.1 hx]; exact h.mv (hu u (List.mem_cons_self ..)) hr
theorem l0_ev {n : Int} {ts : List S64} (hn : n ≤ 6) (h8 : ts.length ≤ 8) (hts : ∀ u ∈ ts, okT n u = true) : ∀ (m i : Nat) (L : List (List Int)) (st : List S107) (out : List S87) (o : Option (List S87)), Tel L st out → (∀ y ∈ out, St n y.f0) → i ≤ out.length → rbfs ts m i out = some o →
  Ev (fun k => dropperref06_found.l0 k out (qOf out) (i : Int) n ts) (match o with | none => ([], false) | some z => (z, true))
 | 0, i, L, st, out, o, h, hs, hi, e => by rw [rbfs] at e; cases e
 | m + 1, i, L, st, out, o, h, hs, hil, e => by
  rw [rbfs] at e
  have e2 := h.len2
  have hle := h.le
  by_cases hi : i < out.length
  ·
   rw [dif_pos hi] at e
   have hx := List.getElem?_eq_getElem hi
   have hp := h.pl i _ hx
   refine Ev.step (fun k => by rw [dropperref06_found.l0]) (ev_pos (by omega) ?_)
   refine l1_ev hn h8 hts (i := i) (x := out[i]) ts 0 out rfl (by omega) hx hs (by omega) (by omega) ?_
   rcases tel_inner (us := ts) (t := 0) h hx with ⟨a, b⟩ | ⟨L', st', out', a, b, c, d⟩
   ·
    rw [b] at e ⊢
    rw [← Option.some.inj e]
   ·
    rw [b] at e ⊢
    simp only at e ⊢
    exact l0_ev hn h8 hts m (i + 1) L' st' out' o c (rinner_st (hs _ (List.getElem_mem hi)) hts hs b) (by have := (List.getElem?_eq_some_iff.1 d).1; omega) e
  ·
   rw [dif_neg hi] at e
   rw [← Option.some.inj e]
   exact Ev.step (fun k => by rw [dropperref06_found.l0]) (ev_neg (by omega) (Ev.now _))
theorem rfound_ev {n : Int} {ts : List S64} {x0 : List Int} (hn : n ≤ 6) (h8 : ts.length ≤ 8) (hts : ∀ u ∈ ts, okT n u = true) (h0 : St n x0) : Ev (fun k => dropperref06_found.f k n ts x0) (match rfound ts x0 with | none => ([], false) | some z => (z, true)) := by
 have hl := h0.len
 obtain ⟨t1, t2⟩ := text_ev x0 h0.rng (by omega)
 unfold dropperref06_found.f
 refine ev_bind1 t1 (ev_pos t2 ?_)
 exact l0_ev hn h8 hts 400 0 [x0] [⟨-1, -1⟩] [⟨x0, []⟩] _ (tel_start x0) (fun y hy => by rw [List.mem_singleton.1 hy]; exact h0) (by simp) (rfound_cases ts x0).1
end Go.Proofs.Ytgdfakmlpdeabaa.Keys

/- The first play to some keys, or to what covers them: program and reference. -/
namespace Go.Proofs.Ytgdfakmlpdeabaa.Keys
set_option linter.unusedVariables false
set_option linter.unusedSimpArgs false
open Go.RowKit Go.Proofs.Ytgdfakmlpdeabaa.XKey Go.Proofs.YtgdfakmlpdeabaaW.PrintWords Go.Proofs.YtgdfakmlpdeabaaW.PrintLast Go.Proofs.YtgdfakmlpdeabaaW.PrintMore
theorem cov_anti : ∀ {a b : List Int}, a.length = b.length → cov a b = true → cov b a = true → a = b
 | [], [], _, _, _ => rfl
 | x :: a, y :: b, hl, h1, h2 => by
  rw [cov, Bool.and_eq_true, decide_eq_true_eq] at h1 h2
  rw [cov_anti (by simpa using hl) h1.2 h2.2, show x = y by omega]
def askP (c : Bool) (o y : List Int) : Bool := cov y o && (c || cov o y)
def waySpec (c : Bool) (n : Int) (ts : List S64) (x0 o : List Int) : List Int × Int := if asks n ts [x0, o] = 0 then askS (askP c o) (rfound ts x0) else ([], asks n ts [x0, o])
theorem way_ev (c : Bool) (n : Int) (ts : List S64) (x0 o : List Int) (hf : Fits ts) (h1 : x0.length ≤ 9223372036854775807) (h2 : o.length ≤ 9223372036854775807) : Ev (fun k => dropperref06_way.f k n ts x0 o c) (waySpec c n ts x0 o) := by
 unfold dropperref06_way.f waySpec
 refine ev_bind1 (asked_ev n ts [x0, o] hf (by simp) (fun l hl => by rcases List.mem_cons.1 hl with rfl | hl; exact h1; rw [List.mem_singleton.1 hl]; exact h2)) ?_
 by_cases h : asks n ts [x0, o] = 0
 ·
  rw [if_pos h]
  refine ev_pos h ?_
  obtain ⟨hb, hls⟩ := asks_zero h
  obtain ⟨⟨b1, b2⟩, b3, b4⟩ := (okB_iff n ts).1 hb
  have h0 := St.of (hls x0 (by simp))
  have ho := St.of (hls o (by simp))
  have hol := ho.len
  refine ev_bind1 (rfound_ev b2 b3 b4 h0) ?_
  rcases (rfound_cases ts x0).2 with ⟨a, b⟩ | ⟨L, st, out, hfo, hr, hT⟩
  ·
   rw [b]
   exact ev_neg (by decide) (Ev.now _)
  ·
   rw [hr]
   refine ev_pos rfl ?_
   obtain ⟨D, hD⟩ := found_inv b4 h0 hfo
   have e := hT.len2
   have hle := hT.le
   have hst : ∀ x ∈ out, St n x.f0 := fun x hx => by
    have : x.f0 ∈ L := by rw [← hT.keys]; exact List.mem_map.2 ⟨x, hx, rfl⟩
    exact hD.sts _ this
   unfold askS
   have H : ∀ (m i : Nat), i + m = out.length → Ev (fun k => dropperref06_way.l0 k o c out (i : Int)) (match (out.drop i).find? (fun x => askP c o x.f0) with | none => ([], 5) | some x => (x.f1, 0)) := by
    intro m
    induction m with
    | zero =>
     intro i hi
     rw [List.drop_eq_nil_of_le (by omega), List.find?_nil]
     exact Ev.step (fun k => by rw [dropperref06_way.l0]) (ev_neg (by omega) (Ev.now _))
    | succ m ih =>
     intro i hi
     have hil : i < out.length := by omega
     have hs := hst _ (List.getElem_mem hil)
     have hsl := hs.len
     have hnx := ih (i + 1) (by omega)
     refine Ev.step (fun k => by rw [dropperref06_way.l0]) (ev_pos (by omega) (ev_pos (by omega) ?_))
     rw [rd_F out i hil, wrap_succ i hil (by omega), List.drop_eq_getElem_cons hil, List.find?_cons]
     refine ev_bind1 (Covers_ev _ _ (by omega) (by omega)) ?_
     cases hc : cov out[i].f0 o with
     | false =>
      have ep : askP c o out[i].f0 = false := by rw [askP, hc]; rfl
      rw [ep]
      exact ev_neg (by decide) hnx
     | true =>
      refine ev_pos rfl ?_
      cases c with
      | true =>
       have ep : askP true o out[i].f0 = true := by rw [askP, hc]; rfl
       rw [ep]
       exact ev_pos rfl (Ev.now _)
      | false =>
       refine ev_neg (by decide) (ev_bind1 (Covers_ev _ _ (by omega) (by omega)) ?_)
       cases hd : cov o out[i].f0 with
       | true =>
        have ep : askP false o out[i].f0 = true := by rw [askP, hc, hd]; rfl
        rw [ep]
        exact ev_pos rfl (Ev.now _)
       | false =>
        have ep : askP false o out[i].f0 = false := by rw [askP, hc, hd]; rfl
        rw [ep]
        exact ev_neg (by decide) hnx
   exact H out.length 0 (by omega)
 ·
  rw [if_neg h]
  exact ev_neg h (Ev.now _)
theorem play_err {n : Int} {ts : List S64} {x0 o : List Int} (is : S70 → Bool) (h : ¬ asks n ts [x0, o] = 0) : key_play.play is n ts x0 o = some ([], asks n ts [x0, o]) := by
 unfold key_play.play
 rw [open_val, Option.bind_some, if_neg h]
theorem Way_val (n : Int) (ts : List S64) (x0 o : List Int) : key_Way.f n ts x0 o = some (waySpec false n ts x0 o) := by
 unfold waySpec key_Way.f
 by_cases h : asks n ts [x0, o] = 0
 ·
  rw [if_pos h]
  obtain ⟨hb, hls⟩ := asks_zero h
  obtain ⟨⟨b1, b2⟩, b3, b4⟩ := (okB_iff n ts).1 hb
  have ho := St.of (hls o (by simp))
  refine play_val _ _ h (fun y hy => ?_)
  rw [way_is b2 ho hy, askP, Bool.eq_iff_iff, decide_eq_true_eq, Bool.and_eq_true, Bool.false_or]
  constructor
  ·
   rintro rfl
   exact ⟨cov_refl _, cov_refl _⟩
  ·
   intro hh
   exact cov_anti (by have := hy.len; have := ho.len; omega) hh.1 hh.2
 ·
  rw [if_neg h]
  exact play_err _ h
theorem Cover_val (n : Int) (ts : List S64) (x0 o : List Int) : key_Cover.f n ts x0 o = some (waySpec true n ts x0 o) := by
 unfold waySpec key_Cover.f
 by_cases h : asks n ts [x0, o] = 0
 ·
  rw [if_pos h]
  obtain ⟨hb, hls⟩ := asks_zero h
  obtain ⟨⟨b1, b2⟩, b3, b4⟩ := (okB_iff n ts).1 hb
  have ho := St.of (hls o (by simp))
  refine play_val _ _ h (fun y hy => ?_)
  rw [cover_is b2 ho hy, askP, Bool.true_or, Bool.and_true]
 ·
  rw [if_neg h]
  exact play_err _ h
theorem waySpec_len (c : Bool) (n : Int) (ts : List S64) (x0 o : List Int) : (waySpec c n ts x0 o).1.length ≤ 9223372036854775807 := by
 unfold waySpec
 split
 ·
  unfold askS
  split
  ·
   simp
  ·
   rename_i out hr
   split
   ·
    simp
   ·
    rename_i x hx
    rcases (rfound_cases ts x0).2 with ⟨a, b⟩ | ⟨L, st, out', hfo, hr', hT⟩
    ·
     rw [b] at hr; cases hr
    ·
     rw [hr'] at hr
     cases hr
     obtain ⟨j, hj, rfl⟩ := List.getElem_of_mem (List.mem_of_find?_eq_some hx)
     have := hT.pl j _ (List.getElem?_eq_getElem hj)
     have := hT.len2
     have := hT.le
     simp only
     omega
 ·
  simp
end Go.Proofs.Ytgdfakmlpdeabaa.Keys

/- All that comes about, in order; with what nothing can be done; the greatest numbers: program and reference. -/
namespace Go.Proofs.Ytgdfakmlpdeabaa.Keys
set_option linter.unusedVariables false
set_option linter.unusedSimpArgs false
open Go.RowKit Go.Proofs.Ytgdfakmlpdeabaa.XKey Go.Proofs.YtgdfakmlpdeabaaW.PrintWords Go.Proofs.YtgdfakmlpdeabaaW.PrintLast Go.Proofs.YtgdfakmlpdeabaaW.PrintMore
/-! ### the order of lists -/
theorem lx_total : ∀ (a b : List Int), (lxLe a b || lxLe b a) = true
 | [], _ => by simp [lxLe]
 | _ :: _, [] => by simp [lxLe]
 | x :: a, y :: b => by
  have ih := lx_total a b
  rw [Bool.or_eq_true] at ih
  simp only [lxLe, Bool.or_eq_true, Bool.and_eq_true, decide_eq_true_eq]
  rcases Int.lt_trichotomy x y with h | h | h
  ·
   exact .inl (.inl h)
  ·
   rcases ih with ih | ih
   ·
    exact .inl (.inr ⟨h, ih⟩)
   ·
    exact .inr (.inr ⟨h.symm, ih⟩)
  ·
   exact .inr (.inl h)
theorem lx_trans : ∀ (a b c : List Int), lxLe a b = true → lxLe b c = true → lxLe a c = true
 | [], _, _, _, _ => by simp [lxLe]
 | _ :: _, [], _, h, _ => by simp [lxLe] at h
 | _ :: _, _ :: _, [], _, h => by simp [lxLe] at h
 | x :: a, y :: b, z :: c, h1, h2 => by
  simp only [lxLe, Bool.or_eq_true, Bool.and_eq_true, decide_eq_true_eq] at h1 h2 ⊢
  rcases h1 with h1 | ⟨h1, h1'⟩ <;> rcases h2 with h2 | ⟨h2, h2'⟩
  ·
   exact .inl (by omega)
  ·
   exact .inl (by omega)
  ·
   exact .inl (by omega)
  ·
   exact .inr ⟨by omega, lx_trans a b c h1' h2'⟩
theorem lx_anti : ∀ (a b : List Int), lxLe a b = true → lxLe b a = true → a = b
 | [], [], _, _ => rfl
 | [], _ :: _, _, h => by simp [lxLe] at h
 | _ :: _, [], h, _ => by simp [lxLe] at h
 | x :: a, y :: b, h1, h2 => by
  simp only [lxLe, Bool.or_eq_true, Bool.and_eq_true, decide_eq_true_eq] at h1 h2
  rcases h1 with h1 | ⟨h1, h1'⟩ <;> rcases h2 with h2 | ⟨h2, h2'⟩
  ·
   omega
  ·
   omega
  ·
   omega
  ·
   rw [h1, lx_anti a b h1' h2']
theorem lx_refl (a : List Int) : lxLe a a = true := by have := lx_total a a; simpa using this
theorem lx_app : ∀ {a b : List Int} (z : List Int), a.length = b.length → lxLe (a ++ z) (b ++ z) = lxLe a b
 | [], [], z, _ => by rw [List.nil_append, lx_refl]; rfl
 | x :: a, y :: b, z, h => by rw [List.cons_append, List.cons_append, lxLe, lxLe, lx_app z (by simpa using h)]
abbrev Up (l : List (List Int)) : Prop := l.Pairwise (fun a b => lxLe a b = true)
theorem up_unique {a b : List (List Int)} (ha : Up a) (hb : Up b) (h : a.Perm b) : a = b := List.Perm.eq_of_pairwise (fun x y _ _ h1 h2 => lx_anti x y h1 h2) ha hb h
def sortS (l : List (List Int)) : List (List Int) := l.mergeSort lxLe
theorem sortS_up (l : List (List Int)) : Up (sortS l) := List.pairwise_mergeSort lx_trans lx_total l
theorem sortS_perm (l : List (List Int)) : (sortS l).Perm l := List.mergeSort_perm l lxLe
theorem sortS_eq {a b : List (List Int)} (h : a.Perm b) : sortS a = sortS b := up_unique (sortS_up a) (sortS_up b) ((sortS_perm a).trans (h.trans (sortS_perm b).symm))
theorem sortS_id {a : List (List Int)} (h : Up a) : sortS a = a := up_unique (sortS_up a) h (sortS_perm a)
theorem lst_srt {n : Int} (hn : n ≤ 6) {L : List (List Int)} (h : ∀ x ∈ L, St n x) : lst n (srt L) = sortS L := by
 refine up_unique ?_ (sortS_up L) ((lst_perm hn h).trans (sortS_perm L).symm)
 unfold lst
 rw [Up, List.pairwise_map]
 have h1 : (srt L).Pairwise (fun a b => key_reach.le a b = true) := List.pairwise_mergeSort (le := key_reach.le) (fun a b c => lx_trans _ _ _) (fun a b => lx_total _ _) (L.map pk)
 refine List.Pairwise.imp_of_mem ?_ h1
 intro a b ha hb hab
 obtain ⟨x, hx, rfl⟩ := srt_mem.1 ha
 obtain ⟨y, hy, rfl⟩ := srt_mem.1 hb
 have hxs := h x hx
 have hys := h y hy
 have l1 := hxs.len
 have l2 := hys.len
 rw [take_pk hn hxs, take_pk hn hys]
 have h2 : lxLe (key_spread.toL (pk x)) (key_spread.toL (pk y)) = true := hab
 rw [toL_pk, toL_pk, six_app x (by omega), six_app y (by omega), show 6 - y.length = 6 - x.length by omega, lx_app _ (by omega)] at h2
 exact h2
/-! ### less, insertion -/
theorem less_ev (a b : List Int) (h : a.length = b.length) (hl : a.length ≤ 9223372036854775807) : Ev (fun k => dropperref06_less.f k a b) (!(lxLe b a)) := by
 unfold dropperref06_less.f
 have H : ∀ (d i : Nat), i + d = a.length → Ev (fun k => dropperref06_less.l0 k a b (i : Int)) (!(lxLe (b.drop i) (a.drop i))) := by
  intro d
  induction d with
  | zero =>
   intro i hi
   rw [List.drop_eq_nil_of_le (by omega : a.length ≤ i), List.drop_eq_nil_of_le (by omega : b.length ≤ i), show (!(lxLe ([] : List Int) [])) = false from rfl]
   exact Ev.step (fun k => by rw [dropperref06_less.l0]) (ev_neg (by omega) (Ev.now _))
  | succ d ih =>
   intro i hi
   refine Ev.step (fun k => by rw [dropperref06_less.l0]) (ev_pos (by omega) (ev_pos (by omega) (ev_pos (by omega) ?_)))
   rw [List.drop_eq_getElem_cons (by omega : i < a.length), List.drop_eq_getElem_cons (by omega : i < b.length), lxLe, rd_at a i (by omega), rd_at b i (by omega), wrap_succ (l := a.length) i (by omega) hl]
   by_cases hc : a[i] = b[i]
   ·
    rw [decide_eq_false (show ¬ b[i] < a[i] by omega), decide_eq_true hc.symm, Bool.false_or, Bool.true_and]
    exact ev_pos hc (ih (i + 1) (by omega))
   ·
    refine ev_neg hc ?_
    rw [decide_eq_false (show ¬ b[i] = a[i] from fun e => hc e.symm), Bool.false_and, Bool.or_false]
    have e : decide (a[i] < b[i]) = !(decide (b[i] < a[i])) := by
     by_cases h3 : a[i] < b[i]
     ·
      rw [decide_eq_true h3, decide_eq_false (by omega)]; rfl
     ·
      rw [decide_eq_false h3, decide_eq_true (by omega)]; rfl
    rw [e]
    exact Ev.now _
 exact H a.length 0 (by omega)
theorem wrap_pred (k : Nat) (h : k + 1 ≤ 1000000) : wrap64 (((k + 1 : Nat) : Int) - 1) = (k : Int) := by rw [wrap_id] <;> omega
theorem ins_up {e : List Int} {out : List (List Int)} {k : Nat} (hk : k ≤ out.length) (hu : Up out) (h1 : ∀ x ∈ out.drop k, lxLe e x = true) (h2 : ∀ x ∈ out.take k, lxLe x e = true) : Up (out.take k ++ e :: out.drop k) := by
 rw [Up, List.pairwise_append]
 refine ⟨List.Pairwise.sublist (List.take_sublist _ _) hu, ?_, ?_⟩
 ·
  rw [List.pairwise_cons]
  exact ⟨h1, List.Pairwise.sublist (List.drop_sublist _ _) hu⟩
 ·
  intro a ha b hb
  rcases List.mem_cons.1 hb with rfl | hb
  ·
   exact h2 a ha
  ·
   exact lx_trans _ _ _ (h2 a ha) (h1 b hb)
theorem ins_perm {e : List Int} {out : List (List Int)} (k : Nat) : (out.take k ++ e :: out.drop k).Perm (e :: out) := by
 have h := List.perm_middle (a := e) (l₁ := out.take k) (l₂ := out.drop k)
 rwa [List.take_append_drop] at h
theorem l1R_ev {n : Int} {xs : List S87} {R : List (List Int) × Int} (hn : n ≤ 6) (hx : ∀ x ∈ xs, St n x.f0) (hxl : xs.length ≤ 300) {i : Nat} (hi : i < xs.length) {out : List (List Int)} (ho : ∀ x ∈ out, St n x) (hol : out.length ≤ 300) (hu : Up out)
  (hR : ∀ out', Up out' → out'.Perm (xs[i].f0 :: out) → Ev (fun k => dropperref06_Reach.l0 k xs out' ((i + 1 : Nat) : Int)) R) :
  ∀ (k : Nat), k ≤ out.length → (∀ x ∈ out.drop k, lxLe xs[i].f0 x = true) → Ev (fun m => dropperref06_Reach.l1 m xs out (i : Int) (k : Int)) R := by
 have hs := hx _ (List.getElem_mem hi)
 have hsl := hs.len
 have done_ : ∀ (k : Nat), k ≤ out.length → (∀ x ∈ out.drop k, lxLe xs[i].f0 x = true) → (∀ x ∈ out.take k, lxLe x xs[i].f0 = true) → Ev (fun m => dropperref06_Reach.l0 m xs (out.take ((k : Int)).toNat ++ xs[i].f0 :: out.drop ((k : Int)).toNat) (wrap64 ((i : Int) + 1))) R := by
  intro k hk h1 h2
  rw [wrap_succ i hi (by omega), Int.toNat_natCast]
  exact hR _ (ins_up hk hu h1 h2) (ins_perm k)
 intro k
 induction k with
 | zero =>
  intro hk h1
  refine Ev.step (fun m => by rw [dropperref06_Reach.l1]) (ev_neg (by omega) (ev_pos (by omega) (ev_pos (by omega) ?_)))
  rw [rd_F xs i hi]
  exact ev_pos ⟨by omega, by omega, by omega⟩ (done_ 0 (by omega) h1 (fun x hx => by simp at hx))
 | succ k ih =>
  intro hk h1
  have hko : k < out.length := by omega
  have hos := ho _ (List.getElem_mem hko)
  have hosl := hos.len
  refine Ev.step (fun m => by rw [dropperref06_Reach.l1]) (ev_pos (by omega) (ev_pos (by omega) (ev_pos (by omega) ?_)))
  rw [wrap_pred k (by omega), rd_F xs i hi]
  refine ev_pos (by omega) (ev_pos (by omega) ?_)
  rw [rd_L out k hko]
  refine ev_bind1 (less_ev _ _ (by omega) (by omega)) ?_
  cases hc : lxLe out[k] xs[i].f0 with
  | false =>
   refine ev_pos rfl (ih (by omega) (fun x hx => ?_))
   rw [List.drop_eq_getElem_cons hko] at hx
   rcases List.mem_cons.1 hx with rfl | hx
   ·
    have := lx_total out[k] xs[i].f0
    rw [hc] at this
    simpa using this
   ·
    exact h1 x hx
  | true =>
   refine ev_neg (by decide) (ev_pos ⟨by omega, by omega, by omega⟩ (done_ (k + 1) hk h1 (fun x hx => ?_)))
   rw [List.take_succ_eq_append_getElem hko] at hx
   rcases List.mem_append.1 hx with hx | hx
   ·
    refine lx_trans _ _ _ ?_ hc
    obtain ⟨j, hj, rfl⟩ := List.getElem_of_mem hx
    rw [List.getElem_take]
    have hj2 : j < k := by simp at hj; omega
    exact List.pairwise_iff_getElem.1 hu j k (by omega) hko hj2
   ·
    rw [List.mem_singleton.1 hx]; exact hc
theorem l0R_ev {n : Int} {xs : List S87} (hn : n ≤ 6) (hx : ∀ x ∈ xs, St n x.f0) (hxl : xs.length ≤ 300) : ∀ (d i : Nat) (out : List (List Int)), i + d = xs.length → (∀ x ∈ out, St n x) → out.length = i → Up out →
  Ev (fun k => dropperref06_Reach.l0 k xs out (i : Int)) (sortS (out ++ (xs.drop i).map (·.f0)), 0) := by
 intro d
 induction d with
 | zero =>
  intro i out hi ho hol hu
  rw [List.drop_eq_nil_of_le (by omega), List.map_nil, List.append_nil, sortS_id hu]
  exact Ev.step (fun k => by rw [dropperref06_Reach.l0]) (ev_neg (by omega) (Ev.now _))
 | succ d ih =>
  intro i out hi ho hol hu
  have hil : i < xs.length := by omega
  refine Ev.step (fun k => by rw [dropperref06_Reach.l0]) (ev_pos (by omega) ?_)
  refine l1R_ev hn hx hxl hil ho (by omega) hu (fun out' hu' hp => ?_) out.length (Nat.le_refl _) (fun x hx => by simp at hx)
  have h3 := ih (i + 1) out' (by omega) (fun x hx' => ?_) (by rw [hp.length_eq, List.length_cons, hol]) hu'
  ·
   rw [List.drop_eq_getElem_cons hil, List.map_cons]
   have e : sortS (out ++ xs[i].f0 :: (xs.drop (i + 1)).map (·.f0)) = sortS (out' ++ (xs.drop (i + 1)).map (·.f0)) := by
    refine sortS_eq ?_
    refine List.perm_middle.trans ?_
    rw [← List.cons_append]
    exact List.Perm.append_right _ hp.symm
   rw [e]
   exact h3
  ·
   rcases List.mem_cons.1 (hp.mem_iff.1 hx') with rfl | h4
   ·
    exact hx _ (List.getElem_mem hil)
   ·
    exact ho x h4
/-! ### Reach -/
def reachS (n : Int) (ts : List S64) (x0 : List Int) : List (List Int) × Int := if asks n ts [x0] = 0 then (match found ts x0 with | none => ([], 4) | some p => (sortS p.1, 0)) else ([], asks n ts [x0])
theorem rReach_ev (n : Int) (ts : List S64) (x0 : List Int) (hf : Fits ts) (h1 : x0.length ≤ 9223372036854775807) : Ev (fun k => dropperref06_Reach.f k n ts x0) (reachS n ts x0) := by
 unfold dropperref06_Reach.f reachS
 refine ev_bind1 (asked_ev n ts [x0] hf (by simp) (fun l hl => by rw [List.mem_singleton.1 hl]; exact h1)) ?_
 by_cases h : asks n ts [x0] = 0
 ·
  rw [if_pos h]
  refine ev_pos h ?_
  obtain ⟨hb, hls⟩ := asks_zero h
  obtain ⟨⟨b1, b2⟩, b3, b4⟩ := (okB_iff n ts).1 hb
  have h0 := St.of (hls x0 (by simp))
  refine ev_bind1 (rfound_ev b2 b3 b4 h0) ?_
  rcases (rfound_cases ts x0).2 with ⟨a, b⟩ | ⟨L, st, out, hfo, hr, hT⟩
  ·
   rw [a, b]
   exact ev_neg (by decide) (Ev.now _)
  ·
   rw [hfo, hr]
   refine ev_pos rfl ?_
   obtain ⟨D, hD⟩ := found_inv b4 h0 hfo
   have e := hT.len2
   have hle := hT.le
   have hst : ∀ x ∈ out, St n x.f0 := fun x hx => by
    have : x.f0 ∈ L := by rw [← hT.keys]; exact List.mem_map.2 ⟨x, hx, rfl⟩
    exact hD.sts _ this
   have := l0R_ev b2 hst (by omega) out.length 0 [] (by omega) (fun x hx => by cases hx) rfl (List.Pairwise.nil)
   rw [List.nil_append, List.drop_zero, hT.keys] at this
   exact this
 ·
  rw [if_neg h]
  exact ev_neg h (Ev.now _)
theorem reach_err {n : Int} {ts : List S64} {x0 : List Int} (h : ¬ asks n ts [x0] = 0) : key_reach.f n ts x0 = some ([], asks n ts [x0]) := by
 unfold key_reach.f
 rw [open_val, Option.bind_some, if_neg h]
theorem lists_nil (n : Int) : Ev (fun k => key_lists.f k [] n) [] := by
 unfold key_lists.f
 exact Ev.step (fun k => by rw [key_lists.l0]) (ev_neg (by simp) (Ev.now _))
theorem kReach_ev (n : Int) (ts : List S64) (x0 : List Int) : Ev (fun k => key_Reach.f k n ts x0) (reachS n ts x0) := by
 unfold reachS
 by_cases h : asks n ts [x0] = 0
 ·
  rw [if_pos h]
  have := Reach_ev h
  obtain ⟨hb, hls⟩ := asks_zero h
  obtain ⟨⟨b1, b2⟩, b3, b4⟩ := (okB_iff n ts).1 hb
  have h0 := St.of (hls x0 (by simp))
  cases hf : found ts x0 with
  | none => rw [hf] at this; exact this
  | some p =>
   obtain ⟨L, st⟩ := p
   obtain ⟨D, hD⟩ := found_inv b4 h0 hf
   rw [hf] at this
   simp only at this ⊢
   rw [← lst_srt b2 hD.sts]
   exact this
 ·
  rw [if_neg h]
  unfold key_Reach.f
  exact ev_val (reach_err h) (ev_bind1 (lists_nil n) (Ev.now _))
/-! ### Stuck -/
def noMove (ts : List S64) (l : List Int) : Bool := (cans l 0 ts).isEmpty
def stuckS (n : Int) (ts : List S64) (x0 : List Int) : List (List Int) × Int := ((reachS n ts x0).1.filter (noMove ts), (reachS n ts x0).2)
theorem kStuck_ev (n : Int) (ts : List S64) (x0 : List Int) : Ev (fun k => key_Stuck.f k n ts x0) (stuckS n ts x0) := by
 unfold stuckS reachS
 by_cases h : asks n ts [x0] = 0
 ·
  rw [if_pos h]
  have := Stuck_ev h
  obtain ⟨hb, hls⟩ := asks_zero h
  obtain ⟨⟨b1, b2⟩, b3, b4⟩ := (okB_iff n ts).1 hb
  have h0 := St.of (hls x0 (by simp))
  cases hf : found ts x0 with
  | none => rw [hf] at this; exact this
  | some p =>
   obtain ⟨L, st⟩ := p
   obtain ⟨D, hD⟩ := found_inv b4 h0 hf
   rw [hf] at this
   simp only at this ⊢
   have e : lst n ((srt L).filter (stk ts n)) = (sortS L).filter (noMove ts) := by
    rw [← lst_srt b2 hD.sts]
    unfold lst
    rw [List.filter_map]
    rfl
   rw [← e]
   exact this
 ·
  rw [if_neg h]
  unfold key_Stuck.f
  refine ev_val (reach_err h) (ev_bind1 (Ev.congr (f := fun _ => some []) (fun k => by rw [key_Stuck.keep]) (Ev.now _)) (ev_bind1 (lists_nil n) (Ev.now _)))
theorem rStuck_ev (n : Int) (ts : List S64) (x0 : List Int) (hf : Fits ts) (h1 : x0.length ≤ 9223372036854775807) : Ev (fun k => dropperref06_Stuck.f k n ts x0) (stuckS n ts x0) := by
 unfold dropperref06_Stuck.f
 refine ev_bind1 (rReach_ev n ts x0 hf h1) ?_
 unfold stuckS reachS
 by_cases h : asks n ts [x0] = 0
 ·
  rw [if_pos h]
  obtain ⟨hb, hls⟩ := asks_zero h
  obtain ⟨⟨b1, b2⟩, b3, b4⟩ := (okB_iff n ts).1 hb
  have h0 := St.of (hls x0 (by simp))
  cases hfo : found ts x0 with
  | none => exact ev_neg (by decide) (Ev.now _)
  | some p =>
   obtain ⟨L, st⟩ := p
   obtain ⟨D, hD⟩ := found_inv b4 h0 hfo
   have hlen := found_len hfo
   refine ev_pos rfl ?_
   have hsl : (sortS L).length ≤ 300 := by rw [(sortS_perm L).length_eq]; exact hlen
   have hst : ∀ x ∈ sortS L, St n x := fun x hx => hD.sts x ((sortS_perm L).mem_iff.1 hx)
   have H : ∀ (d i : Nat) (acc : List (List Int)), i + d = (sortS L).length → acc.length ≤ i → Ev (fun k => dropperref06_Stuck.l0 k (sortS L) acc (i : Int) n ts) (acc ++ ((sortS L).drop i).filter (noMove ts), 0) := by
    intro d
    induction d with
    | zero =>
     intro i acc hi ha
     rw [List.drop_eq_nil_of_le (by omega), List.filter_nil, List.append_nil]
     exact Ev.step (fun k => by rw [dropperref06_Stuck.l0]) (ev_neg (by omega) (Ev.now _))
    | succ d ih =>
     intro i acc hi ha
     have hil : i < (sortS L).length := by omega
     have hs := hst _ (List.getElem_mem hil)
     have hss := hs.len
     refine Ev.step (fun k => by rw [dropperref06_Stuck.l0]) (ev_pos (by omega) (ev_pos (by omega) ?_))
     rw [rd_L _ i hil, wrap_succ i hil (by omega), List.drop_eq_getElem_cons hil, List.filter_cons]
     have ea : asks n ts [(sortS L)[i]] = 0 := by
      unfold asks
      rw [if_pos hb, if_pos (by simp [hs.mk'])]
     refine ev_bind1 (rCan_ev n ts _ hf (by omega)) ?_
     rw [CanS, if_pos ea]
     cases hc : cans (sortS L)[i] 0 ts with
     | nil =>
      have en : noMove ts (sortS L)[i] = true := by rw [noMove, hc]; rfl
      rw [en]
      refine ev_pos (by simp) (ev_pos (by omega) ?_)
      have := ih (i + 1) (acc ++ [(sortS L)[i]]) (by omega) (by simp; omega)
      rw [List.append_assoc] at this
      exact this
     | cons a b =>
      have en : noMove ts (sortS L)[i] = false := by rw [noMove, hc]; rfl
      rw [en]
      exact ev_neg (by simp; omega) (ih (i + 1) acc (by omega) (by omega))
   exact H (sortS L).length 0 [] (by omega) (by simp)
 ·
  rw [if_neg h]
  exact ev_neg h (Ev.now _)
/-! ### Greatest -/
theorem mxs_len {s x : List Int} (h : s.length = x.length) : (mxs s x).length = s.length := by rw [mxs, List.length_zipWith]; omega
theorem mxs_least : ∀ {c s x : List Int}, c.length = s.length → s.length = x.length → cov c s = true → cov c x = true → cov c (mxs s x) = true
 | [], [], [], _, _, _, _ => rfl
 | a :: c, b :: s, y :: x, h1, h2, h3, h4 => by
  rw [cov, Bool.and_eq_true, decide_eq_true_eq] at h3 h4
  rw [mxs, List.zipWith_cons_cons, cov, Bool.and_eq_true, decide_eq_true_eq]
  exact ⟨by omega, mxs_least (by simpa using h1) (by simpa using h2) h3.2 h4.2⟩
theorem fold_least {m : Nat} : ∀ {l : List (List Int)} {s c : List Int}, c.length = m → s.length = m → (∀ x ∈ l, x.length = m) → cov c s = true → (∀ x ∈ l, cov c x = true) → cov c (l.foldl mxs s) = true
 | [], _, _, _, _, _, h, _ => h
 | x :: l, s, c, h1, h2, h3, h4, h5 => by
  have hx := h3 x (by simp)
  show cov c (l.foldl mxs (mxs s x)) = true
  exact fold_least (m := m) h1 (by rw [mxs_len (by omega)]; exact h2) (fun y hy => h3 y (List.mem_cons_of_mem _ hy)) (mxs_least (by omega) (by omega) h4 (h5 x (by simp))) (fun y hy => h5 y (List.mem_cons_of_mem _ hy))
theorem cov_zeros : ∀ {x : List Int}, (∀ a ∈ x, 0 ≤ a) → cov x (List.replicate x.length 0) = true
 | [], _ => rfl
 | a :: x, h => by
  rw [List.length_cons, List.replicate_succ, cov, cov_zeros (fun b hb => h b (List.mem_cons_of_mem _ hb))]
  have := h a (by simp)
  simp; omega
theorem fold_start {m : Nat} {l : List (List Int)} {x0 : List Int} (h0 : x0.length = m) (hl : ∀ x ∈ l, x.length = m) (hp : ∀ a ∈ x0, 0 ≤ a) (hx : x0 ∈ l) : l.foldl mxs (List.replicate m 0) = l.foldl mxs x0 := by
 obtain ⟨a1, a2, a3⟩ := fold_cov (m := m) (l := l) (s := List.replicate m 0) (by simp) hl
 obtain ⟨b1, b2, b3⟩ := fold_cov (m := m) (l := l) (s := x0) h0 hl
 refine cov_anti (by omega) (fold_least a1 h0 hl (a3 x0 hx) a3) (fold_least b1 (by simp) hl ?_ b3)
 have hz := cov_zeros hp
 rw [h0] at hz
 exact cov_trans (by omega) (by simp [h0]) b2 hz
theorem zip_take : ∀ {k : Nat} {a b : List Int}, (mxs a b).take k = mxs (a.take k) (b.take k)
 | 0, a, b => by simp [mxs]
 | k + 1, [], b => by simp [mxs]
 | k + 1, a :: s, [] => by simp [mxs]
 | k + 1, a :: s, b :: t => by
  have := zip_take (k := k) (a := s) (b := t)
  simp only [mxs] at this
  simp [mxs, this]
theorem fold_take (k : Nat) : ∀ (l : List (List Int)) (s : List Int), (l.foldl mxs s).take k = (l.map (·.take k)).foldl mxs (s.take k)
 | [], s => rfl
 | x :: l, s => by rw [List.foldl_cons, List.map_cons, List.foldl_cons, fold_take k l, zip_take]
def greatS (n : Int) (ts : List S64) (x0 : List Int) : List Int × Int := if (reachS n ts x0).2 = 0 then ((reachS n ts x0).1.foldl mxs x0, 0) else ([], (reachS n ts x0).2)
theorem kGreatest_val (n : Int) (ts : List S64) (x0 : List Int) : key_Greatest.f n ts x0 = some (greatS n ts x0) := by
 unfold greatS reachS
 by_cases h : asks n ts [x0] = 0
 ·
  rw [if_pos h, Greatest_val h]
  obtain ⟨hb, hls⟩ := asks_zero h
  obtain ⟨⟨b1, b2⟩, b3, b4⟩ := (okB_iff n ts).1 hb
  have h0 := St.of (hls x0 (by simp))
  have h0l := h0.len
  cases hf : found ts x0 with
  | none => rfl
  | some p =>
   obtain ⟨L, st⟩ := p
   obtain ⟨D, hD⟩ := found_inv b4 h0 hf
   simp only
   rw [if_pos trivial]
   have e : grt n L = (sortS L).foldl mxs x0 := by
    rw [grt, fold_take, List.map_map]
    have e1 : (srt L).map ((fun x => x.take n.toNat) ∘ key_spread.toL) = sortS L := by
     rw [← lst_srt b2 hD.sts]; rfl
    have e2 : ([0, 0, 0, 0, 0, 0] : List Int).take n.toNat = List.replicate n.toNat 0 := by
     have : ([0, 0, 0, 0, 0, 0] : List Int) = List.replicate 6 0 := rfl
     rw [this, List.take_replicate]
     congr 1
     omega
    rw [e1, e2]
    refine fold_start (by omega) (fun x hx => ?_) (fun a ha => (h0.rng a ha).1) ?_
    ·
     have := (hD.sts x ((sortS_perm L).mem_iff.1 hx)).len
     omega
    ·
     exact (sortS_perm L).mem_iff.2 (List.mem_of_getElem? hD.hd)
   rw [e]
 ·
  rw [if_neg h]
  simp only
  rw [if_neg h]
  unfold key_Greatest.f
  rw [reach_err h]
  simp only [Option.bind_some]
  rw [if_neg h]
theorem mx_max (a b : Int) : mx a b = max a b := by unfold mx; rw [Int.max_def]; split <;> split <;> omega
theorem rGreatest_ev (n : Int) (ts : List S64) (x0 : List Int) (hf : Fits ts) (h1 : x0.length ≤ 9223372036854775807) : Ev (fun k => dropperref06_Greatest.f k n ts x0) (greatS n ts x0) := by
 unfold dropperref06_Greatest.f
 refine ev_bind1 (rReach_ev n ts x0 hf h1) ?_
 unfold greatS reachS
 by_cases h : asks n ts [x0] = 0
 ·
  rw [if_pos h]
  obtain ⟨hb, hls⟩ := asks_zero h
  obtain ⟨⟨b1, b2⟩, b3, b4⟩ := (okB_iff n ts).1 hb
  have h0 := St.of (hls x0 (by simp))
  have h0l := h0.len
  cases hfo : found ts x0 with
  | none => exact ev_neg (by decide) (Ev.now _)
  | some p =>
   obtain ⟨L, st⟩ := p
   obtain ⟨D, hD⟩ := found_inv b4 h0 hfo
   have hlen := found_len hfo
   simp only
   rw [if_pos trivial]
   refine ev_pos trivial (ev_some (ev_pos (by simp; omega) ?_))
   rw [List.nil_append]
   have hsl : (sortS L).length ≤ 300 := by rw [(sortS_perm L).length_eq]; exact hlen
   have hst : ∀ x ∈ sortS L, St n x := fun x hx => hD.sts x ((sortS_perm L).mem_iff.1 hx)
   have I : ∀ (R : List Int × Int) (i : Nat) (hi : i < (sortS L).length) (acc : List Int), (acc.length : Int) = n → Ev (fun k => dropperref06_Greatest.l0 k (sortS L) (mxs acc (sortS L)[i]) ((i + 1 : Nat) : Int) n ts) R →
     ∀ (d j : Nat), (j : Int) + d = n → Ev (fun k => dropperref06_Greatest.l1 k (sortS L) ((mxs acc (sortS L)[i]).take j ++ acc.drop j) (i : Int) (j : Int) n ts) R := by
    intro R i hi acc ha hR d
    have hs := (hst _ (List.getElem_mem hi)).len
    have hml : (mxs acc (sortS L)[i]).length = acc.length := mxs_len (by omega)
    induction d with
    | zero =>
     intro j hj
     rw [List.drop_eq_nil_of_le (by omega), List.append_nil, List.take_of_length_le (by omega)]
     refine Ev.step (fun k => by rw [dropperref06_Greatest.l1]) (ev_neg (by omega) ?_)
     rw [wrap_succ i hi (by omega)]
     exact hR
    | succ d ih =>
     intro j hj
     have hja : j < acc.length := by omega
     have hjl : ((mxs acc (sortS L)[i]).take j).length = j := by rw [List.length_take]; omega
     refine Ev.step (fun k => by rw [dropperref06_Greatest.l1]) (ev_pos (by omega) (ev_pos (by omega) (ev_pos (by simp; omega) (ev_pos (by omega) (ev_pos (by omega) ?_)))))
     rw [rd_L _ i hi]
     refine ev_pos (by omega) ?_
     rw [rd_at _ j (by simp; omega), rd_at _ j (by omega), Int.toNat_natCast, wrap_succ (l := 7) j (by omega) (by omega)]
     have e : (((mxs acc (sortS L)[i]).take j ++ acc.drop j).set j (mx (((mxs acc (sortS L)[i]).take j ++ acc.drop j)[j]'(by simp; omega)) (sortS L)[i][j])) = (mxs acc (sortS L)[i]).take (j + 1) ++ acc.drop (j + 1) := by
      have e1 : ((mxs acc (sortS L)[i]).take j ++ acc.drop j)[j]'(by simp; omega) = acc[j] := by
       rw [List.getElem_append_right (by omega)]
       simp [hjl]
      rw [e1, mx_max, List.set_append_right _ _ (by omega), hjl, Nat.sub_self, List.drop_eq_getElem_cons hja, List.set_cons_zero, List.take_succ_eq_append_getElem (by omega : j < (mxs acc (sortS L)[i]).length), List.append_assoc]
      simp [mxs]
     rw [e]
     exact ih (j + 1) (by omega)
   have H : ∀ (d i : Nat) (acc : List Int), i + d = (sortS L).length → (acc.length : Int) = n → Ev (fun k => dropperref06_Greatest.l0 k (sortS L) acc (i : Int) n ts) (((sortS L).drop i).foldl mxs acc, 0) := by
    intro d
    induction d with
    | zero =>
     intro i acc hi ha
     rw [List.drop_eq_nil_of_le (by omega), List.foldl_nil]
     exact Ev.step (fun k => by rw [dropperref06_Greatest.l0]) (ev_neg (by omega) (Ev.now _))
    | succ d ih =>
     intro i acc hi ha
     have hil : i < (sortS L).length := by omega
     have hs := (hst _ (List.getElem_mem hil)).len
     refine Ev.step (fun k => by rw [dropperref06_Greatest.l0]) (ev_pos (by omega) ?_)
     rw [List.drop_eq_getElem_cons hil, List.foldl_cons]
     have h3 := ih (i + 1) (mxs acc (sortS L)[i]) (by omega) (by rw [mxs_len (by omega)]; exact ha)
     have := I _ i hil acc ha h3 acc.length 0 (by omega)
     rw [List.take_zero, List.nil_append, List.drop_zero] at this
     exact this
   exact H (sortS L).length 0 x0 (by omega) h0l
 ·
  rw [if_neg h]
  simp only
  rw [if_neg h]
  exact ev_neg h (Ev.now _)
theorem fold_len_le : ∀ (l : List (List Int)) (s : List Int), (l.foldl mxs s).length ≤ s.length
 | [], s => Nat.le_refl _
 | x :: l, s => by
  rw [List.foldl_cons]
  refine Nat.le_trans (fold_len_le l _) ?_
  rw [mxs, List.length_zipWith]
  omega
theorem greatS_len (n : Int) (ts : List S64) (x0 : List Int) (h : x0.length ≤ 9223372036854775807) : (greatS n ts x0).1.length ≤ 9223372036854775807 := by
 unfold greatS
 split
 ·
  exact Nat.le_trans (fold_len_le _ _) h
 ·
  simp
/-! ### lists of lists -/
theorem sameLists_ev (l : List (List Int)) (h1 : l.length ≤ 9223372036854775807) (h2 : ∀ x ∈ l, x.length ≤ 9223372036854775807) : Ev (fun k => dropperlaw06_sameLists.f k l l) true := by
 unfold dropperlaw06_sameLists.f
 refine ev_pos rfl ?_
 have H : ∀ (d i : Nat), i + d = l.length → Ev (fun k => dropperlaw06_sameLists.l0 k l l (i : Int)) true := by
  intro d
  induction d with
  | zero => intro i hi; exact Ev.step (fun k => by rw [dropperlaw06_sameLists.l0]) (ev_neg (by omega) (Ev.now _))
  | succ d ih =>
   intro i hi
   have hil : i < l.length := by omega
   refine Ev.step (fun k => by rw [dropperlaw06_sameLists.l0]) (ev_pos (by omega) (ev_pos (by omega) (ev_pos (by omega) ?_)))
   rw [rd_L l i hil, wrap_succ i hil h1]
   exact ev_bind1 (same_refl _ (h2 _ (List.getElem_mem hil))) (ev_pos rfl (ih (i + 1) (by omega)))
 exact H l.length 0 (by omega)
theorem reachS_fits (n : Int) (ts : List S64) (x0 : List Int) : (reachS n ts x0).1.length ≤ 300 ∧ ∀ x ∈ (reachS n ts x0).1, x.length ≤ 6 := by
 unfold reachS
 split
 ·
  rename_i h
  obtain ⟨hb, hls⟩ := asks_zero h
  obtain ⟨⟨b1, b2⟩, b3, b4⟩ := (okB_iff n ts).1 hb
  have h0 := St.of (hls x0 (by simp))
  split
  ·
   simp
  ·
   rename_i p hf
   obtain ⟨L, st⟩ := p
   obtain ⟨D, hD⟩ := found_inv b4 h0 hf
   refine ⟨by simp only; rw [(sortS_perm L).length_eq]; exact found_len hf, fun x hx => ?_⟩
   have := (hD.sts x ((sortS_perm L).mem_iff.1 hx)).len
   omega
 ·
  simp
end Go.Proofs.Ytgdfakmlpdeabaa.Keys

/- The law's last question: evaluated. -/
namespace Go.Proofs.Ytgdfakmlpdeabaa.Keys
set_option linter.unusedVariables false
set_option linter.unusedSimpArgs false
open Go.RowKit Go.Proofs.Ytgdfakmlpdeabaa.XKey Go.Proofs.YtgdfakmlpdeabaaW.PrintWords Go.Proofs.YtgdfakmlpdeabaaW.PrintLast Go.Proofs.YtgdfakmlpdeabaaW.PrintMore
def line : List S70 := (List.range 101).map fun i => ⟨(i : Nat), 0, 0, 0, 0, 0⟩
theorem go1 : (key_spread.go [(⟨[0], [1]⟩ : S64)] 400 0 [⟨0, 0, 0, 0, 0, 0⟩] [⟨-1, -1⟩]).map (fun p => (p.1.map key_spread.toL, p.2.2)) = some (line.map key_spread.toL, true) := by decide +kernel
theorem go2 : (key_spread.go [(⟨[1, 0], [0, 1]⟩ : S64), ⟨[0, 1], [1, 0]⟩] 400 0 [⟨1, 0, 0, 0, 0, 0⟩] [⟨-1, -1⟩]).map (fun p => (p.1.map key_spread.toL, p.2.2)) = some ([[1, 0, 0, 0, 0, 0], [0, 1, 0, 0, 0, 0]], true) := by decide +kernel
theorem toL_map {l m : List S70} (h : l.map key_spread.toL = m.map key_spread.toL) : l = m :=
 List.map_inj_right (fun x y h => key_reach.toL_inj h) |>.1 h
theorem sorted_line : line.Pairwise (fun a b => key_reach.le a b = true) := by decide +kernel
theorem reach1 : key_reach.f 1 [(⟨[0], [1]⟩ : S64)] [0] = some (line, 0) := by
 unfold key_reach.f
 rw [show key_open.f 1 [(⟨[0], [1]⟩ : S64)] [[0]] = some 0 by decide +kernel, show key_keysOf.f [0] = some (0, 0, 0, 0, 0, 0) by decide +kernel]
 have h := go1
 obtain ⟨⟨a, s, ok⟩, e, h⟩ := Option.map_eq_some_iff.1 h
 injection h with h1 h2
 have ha := toL_map h1
 subst ha
 simp only at h2
 subst h2
 have e' : key_spread.f 1 [(⟨[0], [1]⟩ : S64)] 0 0 0 0 0 0 = some (line, s, true) := by
  unfold key_spread.f; rw [if_pos (by decide)]; exact e
 simp only [Option.bind_some, if_true, e', List.mergeSort_of_pairwise sorted_line]
theorem reach2 : key_reach.f 2 [(⟨[1, 0], [0, 1]⟩ : S64), ⟨[0, 1], [1, 0]⟩] [1, 0] = some ([⟨0, 1, 0, 0, 0, 0⟩, ⟨1, 0, 0, 0, 0, 0⟩], 0) := by
 unfold key_reach.f
 rw [show key_open.f 2 [(⟨[1, 0], [0, 1]⟩ : S64), ⟨[0, 1], [1, 0]⟩] [[1, 0]] = some 0 by decide +kernel, show key_keysOf.f [1, 0] = some (1, 0, 0, 0, 0, 0) by decide +kernel]
 have h := go2
 obtain ⟨⟨a, s, ok⟩, e, h⟩ := Option.map_eq_some_iff.1 h
 injection h with h1 h2
 have ha := toL_map (l := a) (m := [⟨1, 0, 0, 0, 0, 0⟩, ⟨0, 1, 0, 0, 0, 0⟩]) h1
 subst ha
 simp only at h2
 subst h2
 have hs : List.mergeSort [(⟨1, 0, 0, 0, 0, 0⟩ : S70), ⟨0, 1, 0, 0, 0, 0⟩] key_reach.le = [⟨0, 1, 0, 0, 0, 0⟩, ⟨1, 0, 0, 0, 0, 0⟩] := by
  have hp := List.mergeSort_perm [(⟨1, 0, 0, 0, 0, 0⟩ : S70), ⟨0, 1, 0, 0, 0, 0⟩] key_reach.le
  have hw := List.pairwise_mergeSort (le := key_reach.le) (fun a b c => key_reach.le_trans a b c) (fun a b => key_reach.le_total a b) [(⟨1, 0, 0, 0, 0, 0⟩ : S70), ⟨0, 1, 0, 0, 0, 0⟩]
  refine List.Perm.eq_of_pairwise (le := fun a b => key_reach.le a b = true) (fun a b _ _ h1 h2 => key_reach.le_antisymm a b h1 h2) hw (by decide +kernel) (hp.trans (List.Perm.swap _ _ _))
 have e' : key_spread.f 2 [(⟨[1, 0], [0, 1]⟩ : S64), ⟨[0, 1], [1, 0]⟩] 1 0 0 0 0 0 = some ([⟨1, 0, 0, 0, 0, 0⟩, ⟨0, 1, 0, 0, 0, 0⟩], s, true) := by
  unfold key_spread.f; rw [if_pos (by decide)]; exact e
 simp only [Option.bind_some, if_true, e', hs]
theorem lists2 : key_lists.f 10 [⟨0, 1, 0, 0, 0, 0⟩, ⟨1, 0, 0, 0, 0, 0⟩] 2 = some [[0, 1], [1, 0]] := by decide +kernel
theorem keep1 : (key_Stuck.keep 10 1 [(⟨[0], [1]⟩ : S64)] line).map (List.map key_spread.toL) = some [[100, 0, 0, 0, 0, 0]] := by decide +kernel
theorem lists1 : key_lists.f 10 [⟨100, 0, 0, 0, 0, 0⟩] 1 = some [[100]] := by decide +kernel
theorem stuck1 : key_Stuck.f 10 1 [(⟨[0], [1]⟩ : S64)] [0] = some ([[100]], 0) := by
 unfold key_Stuck.f
 rw [reach1]
 obtain ⟨a, e, h⟩ := Option.map_eq_some_iff.1 keep1
 have ha := toL_map (l := a) (m := [⟨100, 0, 0, 0, 0, 0⟩]) h
 subst ha
 simp only [Option.bind_some, e, lists1]
theorem Reach2 : key_Reach.f 10 2 [(⟨[1, 0], [0, 1]⟩ : S64), ⟨[0, 1], [1, 0]⟩] [1, 0] = some ([[0, 1], [1, 0]], 0) := by
 unfold key_Reach.f
 rw [reach2]
 simp only [Option.bind_some, lists2]
theorem proves2 : key_Proves.f 10 2 [(⟨[1, 0], [0, 1]⟩ : S64), ⟨[0, 1], [1, 0]⟩] [1, 1] [1, 0] [1, 1] = some (true, 0) := by decide +kernel
theorem awake_ev : Ev (fun k => dropperlaw06_Awake.f k) true := by
 refine Ev.of dropperlaw06_Awake.mono (k := 10) ?_
 unfold dropperlaw06_Awake.f
 simp only [Option.bind_some, Reach2, proves2, stuck1]
 decide +kernel
end Go.Proofs.Ytgdfakmlpdeabaa.Keys

/- All keys that come about, those with which nothing can be done, the greatest numbers: program and reference answer the same. -/
namespace Go.Proofs.Ytgdfakmlpdeabaa.Pure
set_option linter.unusedVariables false
set_option linter.unusedSimpArgs false
open Go.RowKit Go.Proofs.Ytgdfakmlpdeabaa.XKey Go.Proofs.YtgdfakmlpdeabaaW.PrintWords Go.Proofs.YtgdfakmlpdeabaaW.PrintLast Go.Proofs.YtgdfakmlpdeabaaW.PrintMore
open Go.Proofs.Ytgdfakmlpdeabaa.Keys
theorem KeyReaches : dropperlaw06_KeyReaches.Pure := by
 intro n ts l _ ht hl
 have hf : Fits ts := ⟨ht.1, fun t h => ⟨(ht.2 t h).1.1, (ht.2 t h).2.1⟩⟩
 refine Ev.rounds (r := true) (g := fun k => dropperlaw06_KeyReaches.f k n ts l) ?_
 unfold dropperlaw06_KeyReaches.f
 obtain ⟨b, hb⟩ := large_ev n ts [l] hf.1 (by simp)
 refine ev_bind1 hb ?_
 cases b with
 | true => exact ev_pos rfl (ev_bind1 awake_ev (Ev.now _))
 | false =>
  refine ev_neg (by decide) ?_
  obtain ⟨r1, r2⟩ := reachS_fits n ts l
  refine ev_bind1 (kReach_ev n ts l) (ev_bind1 (rReach_ev n ts l hf hl.1) (ev_pos rfl (ev_bind1 (sameLists_ev _ (by omega) (fun x hx => by have := r2 x hx; omega)) ?_)))
  refine Ev.step (fun k => by rw [dropperlaw06_KeyReaches.j0]) (ev_neg (by decide) ?_)
  refine ev_bind1 (kStuck_ev n ts l) (ev_bind1 (rStuck_ev n ts l hf hl.1) (ev_val (kGreatest_val n ts l) (ev_bind1 (rGreatest_ev n ts l hf hl.1) (ev_pos rfl ?_))))
  have s1 : (stuckS n ts l).1.length ≤ 300 := by
   unfold stuckS
   exact Nat.le_trans (List.length_filter_le _ _) r1
  have s2 : ∀ x ∈ (stuckS n ts l).1, x.length ≤ 6 := fun x hx => r2 x (List.mem_filter.1 hx).1
  refine ev_bind1 (sameLists_ev _ (by omega) (fun x hx => by have := s2 x hx; omega)) (ev_pos rfl (ev_pos rfl (ev_bind1 (same_refl _ (greatS_len n ts l hl.1)) (ev_pos rfl (ev_bind1 awake_ev (Ev.now _))))))
end Go.Proofs.Ytgdfakmlpdeabaa.Pure

namespace Go.Proofs.Ytgdfakmlpdeabaa.Open
open Go.RowKit Go.Proofs.YtgdfakmlpdeabaaW.PrintWords Go.Proofs.YtgdfakmlpdeabaaW.PrintLast Go.Proofs.YtgdfakmlpdeabaaW.PrintMore
set_option linter.unusedVariables false
set_option linter.unusedSimpArgs false
/-! What an argument of a type reads as, in the print's kinds. -/
def Opens {α : Type} (P : Program) (t : TypeId) (kd : Kd α) (G : α → Prop) : Prop :=
 ∀ (H : Type) (enc : TypeId × Value → H) (W : World) (fuel : Nat) (cs : List Value) (x : DataW H × List MemPlace), DataW.trod enc P W 0 (fun _ => true) true fuel t cs = some x → ∃ a, kd.K W a cs ∧ G a
section
variable {P : Program} {t e : TypeId} {α β : Type} {kd : Kd α} {G : α → Prop}
theorem opens_int {k : IntKind} (hu : P.underlying t = some (.int k)) : Opens P t (Kd.int k) (fun n => (Lit.int k n).wf = true) := by
 intro H enc W fuel cs x h
 obtain ⟨n, rfl, _, hw⟩ := DataW.trod_int hu h
 exact ⟨n, rfl, hw⟩
theorem exists_list {Q : Nat → α → Prop} : ∀ n, (∀ i, i < n → ∃ x, Q i x) → ∃ xs : List α, xs.length = n ∧ ∀ i x, xs[i]? = some x → Q i x := by
 intro n
 induction n with
 | zero => intro _; exact ⟨[], rfl, fun i x h => by simp at h⟩
 | succ n ih =>
  intro h
  obtain ⟨xs, hl, hq⟩ := ih (fun i hi => h i (by omega))
  obtain ⟨x, hx⟩ := h n (by omega)
  refine ⟨xs ++ [x], by simp [hl], fun i y hy => ?_⟩
  by_cases hi : i < n
  ·
   rw [List.getElem?_append_left (by omega)] at hy
   exact hq i y hy
  ·
   rw [List.getElem?_append_right (by omega)] at hy
   have : i - xs.length = 0 := by
    have := (List.getElem?_eq_some_iff.1 hy).1
    simp at this; omega
   rw [this] at hy
   have hin : i = n := by omega
   subst hin
   simp at hy
   subst hy
   exact hx
theorem add_add (a : Addr) (m n : Nat) : (a.add m).add n = a.add (m + n) := by
 unfold Addr.add
 by_cases h1 : m = 0
 ·
  subst h1; simp
 ·
  by_cases h2 : n = 0
  ·
   subst h2; simp [h1]
  ·
   have : ¬ m + n = 0 := by omega
   simp [h1, h2, this, Nat.add_assoc]
theorem opens_slice (hu : P.underlying t = some (.slice e)) (he : Opens P e kd G) (hc : P.cellsOf e = kd.sz) : Opens P t (Kd.slice e kd) (fun l => l.length ≤ 9223372036854775807 ∧ ∀ x ∈ l, G x) := by
 intro H enc W fuel cs x h
 rcases DataW.trod_slice hu h with ⟨rfl, _⟩ | ⟨a, len, cap, elems, rest, n, _, rfl, _, hb, hl, hm, hlen, hel, _, _⟩
 ·
  exact ⟨[], ⟨none, 0, rfl, Nat.le_refl _, rfl, by simp, fun h => absurd h (by simp)⟩, by simp, fun x hx => by simp at hx⟩
 ·
  have hx : ∀ i, i < len → ∃ y : α, (∃ c, c.length = kd.sz ∧ kd.K W y c ∧ ∀ j u, c[j]? = some u → W.cell? (a.add (i * kd.sz + j)) = some u) ∧ G y := by
   intro i hi
   have h1 := hel i hi
   rw [List.getElem?_eq_getElem (by omega)] at h1
   obtain ⟨c, hc1, hc2⟩ := Option.bind_eq_some_iff.1 h1
   obtain ⟨y, hk, hg⟩ := he H enc W n c _ hc2
   obtain ⟨_, hcl, hcell⟩ := World.cells?_some hc1
   refine ⟨y, ⟨c, kd.K_len hk, hk, fun j u hj => ?_⟩, hg⟩
   rw [hc] at hcell
   have := hcell j (by have := (List.getElem?_eq_some_iff.1 hj).1; have := kd.K_len hk; omega)
   rw [← add_add, this, hj]
  obtain ⟨xs, hxl, hxq⟩ := exists_list len hx
  have hmax : len ≤ 9223372036854775807 := by unfold maxLen at hm; omega
  refine ⟨xs, ⟨some a, cap, by rw [hxl], by omega, rfl, by omega, fun _ => ⟨a, rfl, fun j p hj => (hxq j p hj).1⟩⟩, by omega, fun y hy => ?_⟩
  obtain ⟨i, hi, rfl⟩ := List.mem_iff_getElem.1 hy
  exact (hxq i xs[i] (List.getElem?_eq_getElem hi)).2
def OpensF (P : Program) (fs : List Field) (off : Nat) (kd : Kd α) (G : α → Prop) : Prop :=
 ∀ (H : Type) (enc : TypeId × Value → H) (W : World) (fuel : Nat) (cs : List Value) (xs : List (DataW H × List MemPlace)), xs.length = fs.length → cs.length = off + kd.sz →
  (∀ (i : Nat) (f : Field), fs[i]? = some f → DataW.trod enc P W 0 (fun _ => true) true fuel f.type ((cs.drop f.offset).take (P.cellsOf f.type)) = xs[i]?) → ∃ a, kd.K W a (cs.drop off) ∧ G a
theorem opensF_one {f : Field} {off : Nat} (ho : f.offset = off) (hc : P.cellsOf f.type = kd.sz) (h : Opens P f.type kd G) : OpensF P [f] off kd G := by
 intro H enc W fuel cs xs hl hcs hx
 have h0 := hx 0 f rfl
 rw [List.getElem?_eq_getElem (by rw [hl]; simp), ho, hc, List.take_of_length_le (by rw [List.length_drop]; omega)] at h0
 exact h H enc W fuel _ _ h0
theorem opensF_cons {f : Field} {fs : List Field} {off : Nat} {ka : Kd α} {kb : Kd β} {Ga : α → Prop} {Gb : β → Prop} (ho : f.offset = off) (hc : P.cellsOf f.type = ka.sz) (h : Opens P f.type ka Ga) (hr : OpensF P fs (off + ka.sz) kb Gb) :
  OpensF P (f :: fs) off (Kd.pair ka kb) (fun p => Ga p.1 ∧ Gb p.2) := by
 intro H enc W fuel cs xs hl hcs hx
 have hcs' : cs.length = off + (ka.sz + kb.sz) := hcs
 match xs, hl with
 | x0 :: xs', hl =>
  have h0 := hx 0 f rfl
  rw [ho, hc] at h0
  obtain ⟨a, ha, hga⟩ := h H enc W fuel _ x0 h0
  obtain ⟨b, hb, hgb⟩ := hr H enc W fuel cs xs' (by simpa using hl) (by omega) (fun i f' hf' => hx (i + 1) f' (by simpa using hf'))
  refine ⟨(a, b), ⟨_, _, ?_, ha, hb⟩, hga, hgb⟩
  rw [← List.drop_drop, List.take_append_drop]
theorem opens_struct {fs : Array Field} (hu : P.underlying t = some (.struct fs)) (hc : P.cellsOf t = kd.sz) (h : OpensF P fs.toList 0 kd G) : Opens P t kd G := by
 intro H enc W fuel cs x hx
 obtain ⟨xs, n, _, _, hl, hxl, hf⟩ := DataW.trod_struct hu hx
 obtain ⟨a, ha, hg⟩ := h H enc W n cs xs (by rw [hxl]; simp) (by omega) (fun i f hf' => hf i f (by simpa using hf'))
 exact ⟨a, ha, hg⟩
theorem opens_iso {f : β → α} (g : α → β) (hfg : ∀ y, f (g y) = y) (h : Opens P t kd G) : Opens P t (Kd.iso kd f) (fun b => G (f b)) := by
 intro H enc W fuel cs x hx
 obtain ⟨a, ha, hg⟩ := h H enc W fuel cs x hx
 exact ⟨g a, by show kd.K W (f (g a)) cs; rw [hfg]; exact ha, by show G (f (g a)); rw [hfg]; exact hg⟩
theorem agg_of {cs : Array Value} {l : List Value} (h : (Value.agg cs).cells.toList = l) : cs = l.toArray := by
 have h' : cs.toList = l := h
 rw [← h']
end
end Go.Proofs.Ytgdfakmlpdeabaa.Open

-- Written by wip/xprint.py of this repo, over the kit's print.py: out of the translation; the oracles in it are by hand. Not trusted: Lean checks it.
namespace Go.Proofs.Ytgdfakmlpdeabaa.keyReaches
open Go.ChangeShapes Go.WideShapes Go.ChangeAt Go.RowKit Go.Proofs.Ytgdfakmlpdeabaa.Open Go.Proofs.Ytgdfakmlpdeabaa.XKey Go.Proofs.YtgdfakmlpdeabaaW.PrintWords Go.Proofs.YtgdfakmlpdeabaaW.PrintLast Go.Proofs.YtgdfakmlpdeabaaW.PrintMore
open Go.ChangeMaps (open_string shut_string)
set_option linter.unusedVariables false
set_option linter.unusedSimpArgs false
theorem own : ownKnob Try.prog.godebug = none := by kernel_rfl
theorem laidOut : laidOutB Try.prog = true := by kernel_rfl
set_option maxHeartbeats 8000000 in
set_option maxRecDepth 100000 in
theorem lifted (os : Os) (started : os.Started) (H : Type) (enc : TypeId × Value → H) :
  ReturnsInHanded {} Try.checked os 5 .any (Rows.keyReachesSpec.pre6 enc Try.prog Try.f5 Rows.keyReachesRow.domain false) (Rows.keyReachesSpec.post enc Try.prog Try.f5 false true false false) := by
 refine returnsInHanded_of_change_sized (C := Try.checked) own started (by kernel_rfl) Try.func5
  (ChangeSpec.witness6 (enc := enc) (C := Try.checked) false ⟨#[], #[.agg #[.int .i64 0, .slice none 0 0], .slice none 0 0], []⟩ 8 (by kernel_rfl) (by kernel_rfl) (by kernel_rfl) (by kernel_rfl)) ?_
 intro W base args ds gs before hval0 hW hcnd hsz0 _
 have hval : ∀ (j : Nat) t v, Try.f5.params[j]? = some t → args[j]? = some v → Value.okWide Try.prog W .any base t v := hval0
 have hW' := hW
 obtain ⟨p, q, hA0, hV, rfl, hfz, hnd⟩ := hW
 have hA : DataW.TrodAll enc Try.prog W 0 (fun _ => true) true Try.f5.params.toList args.toList ds p := hA0
 rw [Try.params5] at hA hval
 obtain ⟨v0, vs0, d0, ds0, p0, q0, hargs, rfl, rfl, h0, r0⟩ := trodAll_cons hA
 obtain ⟨v1, vs1, d1, ds1, p1, q1, rfl, rfl, rfl, h1, r1⟩ := trodAll_cons r0
 obtain ⟨rfl, rfl, rfl⟩ := trodAll_nil r1
 obtain rfl : args = #[v0, v1] := by cases args; simp_all
 obtain ⟨rfl, rfl⟩ := trodVars_none hV
 obtain ⟨cs0, rfl, hz0⟩ := okWide_struct Try.underlying24 (hval 0 24 v0 rfl rfl)
 have k0 := h0
 have lt0 : ∀ x ∈ p0, x.block < W.heap.size := by obtain ⟨m, hm⟩ := k0; exact DataW.trod_lt m _ _ _ hm
 obtain ⟨fuel0, hf0⟩ := h0
 obtain ⟨⟨u0_0, u0_1⟩, hK0, hG0⟩ := (opens_struct Try.underlying24 (by kernel_rfl) (opensF_cons rfl (by kernel_rfl) (opens_int Try.underlying3) (opensF_one rfl (by kernel_rfl) (opens_slice Try.underlying22 (opens_iso (f := fun x : S64 => (x.f0, x.f1)) (fun p => ⟨p.1, p.2⟩) (fun _ => rfl) (opens_struct Try.underlying64 (by kernel_rfl) (opensF_cons rfl (by kernel_rfl) (opens_slice Try.underlying25 (opens_int Try.underlying3) (by kernel_rfl)) (opensF_one rfl (by kernel_rfl) (opens_slice Try.underlying25 (opens_int Try.underlying3) (by kernel_rfl)))))) (by kernel_rfl))))) H enc W fuel0 _ _ hf0
 obtain ⟨c0_0, r0_0, e0_0, hk0_0, hk0_1⟩ := hK0
 obtain ⟨g0_0, g0_1⟩ := hG0
 have hq0_0 := hk0_0
 obtain ⟨A0_1, q0_1, hq0_1, hc0_1, hr0_1⟩ := hk0_1
 have hq0_0' : c0_0 = _ := hq0_0
 obtain rfl : cs0 = #[.int .i64 u0_0, .slice A0_1 u0_1.length q0_1] := by
  have h_ := agg_of (l := [.int .i64 u0_0, .slice A0_1 u0_1.length q0_1]) (cs := cs0) (by rw [e0_0, hq0_0', hq0_1]; rfl)
  exact h_
 obtain ⟨b1, len1, cap1, rfl⟩ := okWide_slice Try.underlying25 (hval 1 25 v1 rfl rfl)
 have k1 := h1
 have lt1 : ∀ x ∈ p1, x.block < W.heap.size := by obtain ⟨m, hm⟩ := k1; exact DataW.trod_lt m _ _ _ hm
 obtain ⟨fuel1, hf1⟩ := h1
 obtain ⟨l1, ⟨A1, c1, hcs1, hc1, hr1⟩, hg1⟩ := (opens_slice Try.underlying25 (opens_int Try.underlying3) (by kernel_rfl)) H enc W fuel1 _ _ hf1
 simp [Value.cells] at hcs1
 obtain ⟨rfl, rfl, rfl⟩ := hcs1
 clear hA0 hval0 hsz0
 obtain ⟨k, h⟩ := Pure.KeyReaches u0_0 u0_1 l1 g0_0 g0_1 hg1
 refine (dropperlaw06_KeyReaches.calls k u0_0 _ _ u0_1 (fun k_ => k_ < W.heap.size) _ _ l1 true W hr0_1 hc0_1 (Kd.V_mk hc1 (Kd.C_F (Kd.heap_int .i64) hr1)) h).mono fun e W' ⟨he, bel0⟩ => ?_
 have bel : Below W.heap.size W W' := bel0
 subst he
 exact ⟨_, rfl, _, _, _, [], _, [], hW', trodAll_mk1 (shut_bool Try.underlying4 _), (trodAll_cons_mk (Below.trod laidOut (by kernel_rfl) (of_decide_eq_true (by kernel_rfl)) k0 bel lt0) (trodAll_cons_mk (Below.trod laidOut (by kernel_rfl) (of_decide_eq_true (by kernel_rfl)) k1 bel lt1) trodAll_mk0)), rfl, bel.frame _, fun h => by cases h⟩
theorem over : Rows.keyReachesRow.holds Try.pinned (OpenSpec.ofChange Rows.keyReachesSpec) :=
 OpenClaim.holds_of_wide 5 Try.f5 rfl rfl rfl rfl rfl rfl rfl ⟨rfl, rfl, rfl, rfl, rfl⟩ rfl rfl rfl rfl rfl (by kernel_rfl) Try.func5 (by kernel_rfl)
  (of_decide_eq_true (by kernel_rfl)) (by unfold Func.isWrapper; first | (rw [if_pos (by decide +kernel)]; kernel_rfl) | (rw [if_neg (by decide +kernel)]; exact ⟨rfl, rfl⟩))
  (fun os started H enc _ => lifted os started H enc)
theorem proved : Rows.KeyReachesSaid := over
#print axioms proved
end Go.Proofs.Ytgdfakmlpdeabaa.keyReaches
namespace Go.Proofs.Ytgdfakmlpdeabaa
theorem keyReaches_holds : Rows.KeyReachesSaid := keyReaches.proved
end Go.Proofs.Ytgdfakmlpdeabaa
